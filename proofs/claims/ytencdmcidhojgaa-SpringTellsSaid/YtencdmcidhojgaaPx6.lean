-- Written by a program of this session (hprint.py), out of the translation; functions that the print does not take are given by hand.
import Derived.Test.YtencdmcidhojgaaPx0
import Derived.Test.YtencdmcidhojgaaPx1
import Derived.Test.YtencdmcidhojgaaPx2
import Derived.Test.YtencdmcidhojgaaPx5
namespace Go.Proofs.Ytencdmcidhojgaa.P
open Go.RowKit Go.Proofs.YtencdmcidhojgaaM Go.Proofs.YtencdmcidhojgaaW.PrintWords Go.Proofs.YtencdmcidhojgaaW.PrintLast Go.Proofs.YtencdmcidhojgaaW.PrintMore
attribute [local go_sem] max2_int min2_int max_two min_two max_three min_three max_four min_four   -- for this text's walks alone
set_option linter.unusedVariables false
set_option linter.unusedSimpArgs false

/-! ### spring_Press_1: function 22 -/
def spring_Press_1.f (a b : Int) (a0_0 : Int) (a0_1 : Int) (a0_2 : Int) : Option Int := (frac_Ceil.f (wrap64 (a * a0_2)) b).bind fun bt => (spring_least.f a0_0 a0_1 a0_2).bind fun t => some (mx t (wrap64 (a0_0 - bt.1)))
theorem spring_Press_1.ca {W : World} {b o : Nat} {ob : Obj} {v : Value} (h : W.cell? ⟨b, o, none⟩ = some v) : (W.alloc ob).cell? ⟨b, o, none⟩ = some v := (World.cell?_alloc_some W ⟨b, o, none⟩ ob (by rw [h]; rfl)).trans h
theorem spring_Press_1.cd {W : World} {b o : Nat} {v : Value} (h : W.cell? ⟨b, o, none⟩ = some v) : W.drew.cell? ⟨b, o, none⟩ = some v := h
theorem spring_Press_1.cdN {W : World} {b o m : Nat} {v : Value} (h : W.cell? ⟨b, o, none⟩ = some v) : (W.drewN m).cell? ⟨b, o, none⟩ = some v := h
set_option maxHeartbeats 8000000 in
set_option maxRecDepth 100000 in
theorem spring_Press_1.calls (a b : Int) (a0_0 a0_1 a0_2 : Int) (pa pb : Nat) (r : Int) (w : World) (ha : w.cell? ⟨pa, 0, none⟩ = some (.int .i64 a)) (hb : w.cell? ⟨pb, 0, none⟩ = some (.int .i64 b)) (h : spring_Press_1.f a b a0_0 a0_1 a0_2 = some r) :
    Calls Try.prog 22 #[.agg #[.int .i64 a0_0, .int .i64 a0_1, .int .i64 a0_2], .pointer (some ⟨pa, 0, none⟩), .pointer (some ⟨pb, 0, none⟩)] w fun e w' => e = .returned (.int .i64 r) ∧ Below w.heap.size w w' := by
  have hu33 := Try.underlying33
  unfold spring_Press_1.f at h
  obtain ⟨⟨q1, qb⟩, hq, h⟩ := Option.bind_eq_some_iff.mp h
  obtain ⟨t, ht, h⟩ := Option.bind_eq_some_iff.mp h
  obtain rfl := Option.some.inj h
  have A1 := Aside0.mk hq
  have A2 := Aside0.mk ht
  have ha2 := spring_Press_1.ca (ob := .cells #[.int .i64 a0_0, .int .i64 a0_1, .int .i64 a0_2] 33) ha
  have hb2 := spring_Press_1.ca (ob := .cells #[.int .i64 a0_0, .int .i64 a0_1, .int .i64 a0_2] 33) hb
  have BX := Aside0.mk (blk_new w (.cells #[.int .i64 a0_0, .int .i64 a0_1, .int .i64 a0_2] 33))
  clear h hq ht ha hb
  go_enter Try.func22, Try.ntmps22
  go_wp2_with (first | (go_at_call 23; (with_reducible refine (frac_Ceil.calls (wrap64 (a * a0_2)) b q1 qb _ A1.out).mono ?_); rintro e w1 ⟨rfl, hb⟩; have HB1 := Aside0.mk (below_step (below_alloc (Below.refl w.heap.size w) _) hb); have BX1 := Aside0.mk (blk_below BX.out hb); clear hb))
  have z0 : w1.cell? ⟨w.heap.size, 0, none⟩ = some (.int .i64 a0_0) := (blk_cell BX1.out 0).trans rfl
  have z1 : w1.cell? ⟨w.heap.size, 1, none⟩ = some (.int .i64 a0_1) := (blk_cell BX1.out 1).trans rfl
  have z2 : w1.cell? ⟨w.heap.size, 2, none⟩ = some (.int .i64 a0_2) := (blk_cell BX1.out 2).trans rfl
  have l1 : w.heap.size < w1.heap.size := blk_lt BX1.out
  clear ha2 hb2
  go_region_held3 (fun w' => w'.cell? ⟨w.heap.size, 0, none⟩ = some (.int .i64 a0_0) ∧ w'.cell? ⟨w.heap.size, 1, none⟩ = some (.int .i64 a0_1) ∧ w'.cell? ⟨w.heap.size, 2, none⟩ = some (.int .i64 a0_2)) ((refine ⟨?_, ?_, ?_⟩ <;> (first | ((repeat (first | (with_reducible assumption) | (with_reducible refine spring_Press_1.ca ?_) | (with_reducible refine spring_Press_1.cd ?_) | (with_reducible refine spring_Press_1.cdN ?_))); done) | (go_keep; done) | (simp [*]; done))))
    (first | (go_at_call 24; (with_reducible refine (spring_least.calls a0_0 a0_1 a0_2 t _ A2.out).mono ?_); rintro e w' ⟨rfl, hb⟩; have qq0 : w'.cell? ⟨w.heap.size, 0, none⟩ = some (.int .i64 a0_0) := (by rw [hb.cell (by first | omega | (simp; done) | (simp; omega))]; first | assumption | (simp [*]; done)); have qq1 : w'.cell? ⟨w.heap.size, 1, none⟩ = some (.int .i64 a0_1) := (by rw [hb.cell (by first | omega | (simp; done) | (simp; omega))]; first | assumption | (simp [*]; done)); have qq2 : w'.cell? ⟨w.heap.size, 2, none⟩ = some (.int .i64 a0_2) := (by rw [hb.cell (by first | omega | (simp; done) | (simp; omega))]; first | assumption | (simp [*]; done))))
  have hmx : (if t < IntKind.i64.wrap (a0_0 - q1) then IntKind.i64.wrap (a0_0 - q1) else t) = mx t (wrap64 (a0_0 - q1)) := by
    have e : IntKind.i64.wrap (a0_0 - q1) = wrap64 (a0_0 - q1) := by
      simp only [wrap64, IntKind.wrap, IntKind.bits, IntKind.signed]
      simp
      split <;> omega
    rw [e]
    rfl
  rw [hmx]
  have HB2 := Aside0.mk (below_step (below_drew1 HB1.out) hb)
  clear hb qq0 qq1 qq2 z0 z1 z2
  go_wp2
  go_ret
  exact ⟨rfl, HB2.out⟩

/-! ### spring_Press: function 11 -/
def spring_Press.each : Nat → Int → Int → List Int → List (S33) → Int → Option (List Int)
  | 0, _, _, _, _, _ => none
  | k + 1, a, b, xs, l, i => if i < (l.length : Int) then (if 0 ≤ i then ((spring_Press_1.f a b (rd_T33 l i).f0 (rd_T33 l i).f1 (rd_T33 l i).f2).bind fun t => if xs.length < 17592186044416 then spring_Press.each k a b (xs ++ [t]) l (wrap64 (i + 1)) else none) else none) else some xs
def spring_Press.f (k : Nat) (l0 : List (S33)) (a1 : Int) : Option (List Int × Bool) := (spring_Force.f k l0 a1).bind fun bt => if bt.2.2 = true then ((spring_Press.each k bt.1 bt.2.1 [] l0 0).bind fun t => some (t, true)) else some ([], false)
theorem spring_Press.mono_l : ∀ k, (∀ y0 y1 y2 y3 y4, LeO (spring_Press.each k y0 y1 y2 y3 y4) (spring_Press.each (k + 1) y0 y1 y2 y3 y4))
  | 0 => fun _ _ _ _ _ r h => by simp [spring_Press.each] at h
  | k + 1 => by
    have ih0 := spring_Press.mono_l k
    intro y0 y1 y2 y3 y4
    unfold spring_Press.each
    repeat' first
      | (with_reducible exact ih0 _ _ _ _ _)
      | (with_reducible exact LeO.refl _)
      | (with_reducible exact LeO.none _)
      | (with_reducible refine LeO.ite ?_ ?_)
      | (with_reducible refine LeO.bind ?_ (fun _ => ?_))
      | exact LeO.none _
theorem spring_Press.mono : ∀ a0 a1 k, LeO (spring_Press.f k a0 a1) (spring_Press.f (k + 1) a0 a1) := by
  intro a0 a1 k
  unfold spring_Press.f
  repeat' first
    | (with_reducible exact spring_Press.mono_l _ _ _ _ _ _)
    | (with_reducible exact spring_Force.mono _ _ _)
    | (with_reducible exact LeO.refl _)
    | (with_reducible exact LeO.none _)
    | (with_reducible refine LeO.ite ?_ ?_)
    | (with_reducible refine LeO.bind ?_ (fun _ => ?_))
    | exact LeO.none _
set_option maxHeartbeats 8000000 in
set_option maxRecDepth 100000 in
theorem spring_Press.eachc (k : Nat) (a b : Int) (pa pb : Nat) (A0 : Option Addr) (c0 : Nat) (l0 : List (S33)) (r : List Int) (w : World) (ha : w.cell? ⟨pa, 0, none⟩ = some (.int .i64 a)) (hb : w.cell? ⟨pb, 0, none⟩ = some (.int .i64 b)) (hr0 : Kd.C k33 w A0 l0.length l0) (hc0 : l0.length ≤ c0) (h : spring_Press.each k a b [] l0 0 = some r) :
    Calls Try.prog 25 #[.slice A0 l0.length c0, .func (.func 22) #[] #[.pointer (some ⟨pa, 0, none⟩), .pointer (some ⟨pb, 0, none⟩)]] w fun e w' => ∃ v0_ : Value, e = .returned (v0_) ∧ Kd.R (Kd.int .i64) 3 w' w.heap.size (fun _ => True) v0_ r ∧ Below w.heap.size w w' := by
  have hu33 := Try.underlying33
  have HR0 := Aside0.mk hr0
  have HC0 := Aside0.mk hc0
  have HA0 := Aside0.mk ha
  have HB0 := Aside0.mk hb
  have H' := Aside0.mk h
  clear hr0 hc0 ha hb h
  go_enter Try.func25, Try.ntmps25
  go_wp2
  go_loopg [5, 10] k (fun kq v5 v10 w' => ∃ (xs : List Int) (i : Int), v10 = .int .i64 i ∧ Aside0 (spring_Press.each kq a b xs l0 i = some r) ∧ Aside0 (kq ≤ k) ∧ Aside0 (Kd.R (Kd.int .i64) 3 w' w.heap.size (fun _ => True) v5 xs) ∧ Aside0 (Below w.heap.size w w'))
  case atStart => exact ⟨[], 0, rfl, H', ⟨Nat.le_refl _⟩, ⟨Kd.R_nil _ _ _ _ _⟩, ⟨Below.refl _ _⟩⟩
  case round =>
    clear H'
    obtain ⟨xs, i, rfl, HA, HK1, HO, HB⟩ := hrel
    cases gk with
    | zero => exact absurd HA.out (by simp [spring_Press.each])
    | succ k1 =>
      have H := HA.out
      clear HA
      rw [spring_Press.each] at H
      by_cases c2 : i < (l0.length : Int)
      · rw [if_pos c2] at H
        by_cases c3 : 0 ≤ i
        · rw [if_pos c3] at H
          obtain ⟨t, ht, H⟩ := Option.bind_eq_some_iff.mp H
          by_cases c4 : xs.length < 17592186044416
          · rw [if_pos c4] at H
            obtain ⟨ad, e0, h0, h1, h2⟩ := at_T33 HR0.out i c3 c2
            cases e0
            replace h0 := (HB.out.cell (World.block_lt_of_cell? w _ h0)).trans h0
            replace h1 := (HB.out.cell (World.block_lt_of_cell? w _ h1)).trans h1
            replace h2 := (HB.out.cell (World.block_lt_of_cell? w _ h2)).trans h2
            have HA1 := Aside0.mk (spring_Press_1.ca (ob := .cells #[.int .i64 (rd_T33 l0 i).f0, .int .i64 (rd_T33 l0 i).f1, .int .i64 (rd_T33 l0 i).f2] 33) ((HB.out.cell (World.block_lt_of_cell? w _ HA0.out)).trans HA0.out))
            have HB1 := Aside0.mk (spring_Press_1.ca (ob := .cells #[.int .i64 (rd_T33 l0 i).f0, .int .i64 (rd_T33 l0 i).f1, .int .i64 (rd_T33 l0 i).f2] 33) ((HB.out.cell (World.block_lt_of_cell? w _ HB0.out)).trans HB0.out))
            have A1 := Aside0.mk ht
            have LM := Aside0.mk c4
            have c2b : decide (i < (l0.length : Int)) = true := decide_eq_true c2
            have c3b : decide (0 ≤ i) = true := decide_eq_true c3
            have p1 := eq_true c3
            have q1 := eq_true c2
            obtain ⟨ys, hys⟩ : ∃ ys : List Int, ys = xs ++ [t] := ⟨_, rfl⟩
            rw [← hys] at H
            have NY := Aside0.mk hys
            have H' := Aside0.mk H
            clear ht H c2 c3 c4 hys
            go_wp2_with (first | (go_at_call 22; (with_reducible refine (spring_Press_1.calls a b _ _ _ pa pb t _ HA1.out HB1.out A1.out).mono ?_); rintro e w3 ⟨rfl, hb⟩; have HO3 := Aside0.mk (Kd.R_below (Kd.R_alloc HO.out _) hb); have HB3 := bs HB hb; clear hb) | ((with_reducible refine gate_builtin (b := .append) (xs := #[.tmp 14, .tmp 18]) rfl ?_); at_builtin; refine Kd.R_append (Kd.int .i64) (w0 := w) w.heap.size rfl (.tmp 14) (.tmp 18) 26 3 (.int .i64 0) 8 rfl Try.underlying26 info3 rfl (by decide) (by omega) u5 xs t [.int .i64 t] (fun _ => True) (fun _ => False) rfl rfl ?aP (fun _ hk => hk.elim) ?aF ?aO ?aB ?aS ?aL ?_; (case aP => exact rfl); (case aB => exact (by repeat (first | (with_reducible first | exact HB3.out | apply below_alloc | apply pw_below_drewN | apply below_drew1) | exact HB3.out))); (case aF => exact (fun _ _ => trivial)); (case aO => exact (by (with_reducible repeat (first | apply Kd.R_alloc | apply Kd.R_drewN | apply Kd.R_drew)); exact HO3.out)); (case aS => exact (below_size (by repeat (first | (with_reducible first | exact HB3.out | apply below_alloc | apply pw_below_drewN | apply below_drew1) | exact HB3.out)))); (case aL => have := LM.out; omega); intro v4 w4 ho hb hg hat; rw [← NY.out] at ho; have HO4 := Aside0.mk ho; have HB4 := Aside0.mk hb; clear ho hb hg hat))
            go_roundg k1
            case measure => have := HK1.out; omega
            case rel => exact ⟨ys, _, rfl, H', ⟨by have := HK1.out; omega⟩, HO4, HB4⟩
          · rw [if_neg c4] at H
            cases H
        · rw [if_neg c3] at H
          cases H
      · rw [if_neg c2] at H
        obtain rfl := Option.some.inj H
        have c2b : decide (i < (l0.length : Int)) = false := decide_eq_false c2
        clear c2 H
        go_wp2
        go_ret
        exact ⟨_, rfl, HO.out, HB.out⟩
theorem spring_Press.two1 (w : World) (t : TypeId) (a b : Int) : ((w.alloc (.cells #[.int .i64 a] t)).alloc (.cells #[.int .i64 b] t)).cell? ⟨w.heap.size, 0, none⟩ = some (.int .i64 a) := (blk_cell (two_old w _ _) 0).trans rfl
theorem spring_Press.two2 (w : World) (t : TypeId) (a b : Int) : ((w.alloc (.cells #[.int .i64 a] t)).alloc (.cells #[.int .i64 b] t)).cell? ⟨w.heap.size + 1, 0, none⟩ = some (.int .i64 b) := (blk_cell (two_new w _ _) 0).trans rfl
set_option maxHeartbeats 8000000 in
set_option maxRecDepth 100000 in
theorem spring_Press.calls (k : Nat) (A0 : Option Addr) (c0 : Nat) (l0 : List (S33)) (a1 : Int) (r1 : List Int) (r2 : Bool) (w : World) (hr0 : Kd.C k33 w A0 l0.length l0) (hc0 : l0.length ≤ c0) (h : spring_Press.f k l0 a1 = some (r1, r2)) :
    Calls Try.prog 11 #[.slice A0 l0.length c0, .int .i64 a1] w fun e w' => ∃ v0_ : Value, e = .returned (.tuple #[v0_, .bool r2]) ∧ Kd.R (Kd.int .i64) 3 w' w.heap.size (fun _ => True) v0_ r1 ∧ Below w.heap.size w w' := by
  have hmf : ∀ (fn : Fn) (first cap : Array Value) (w : World), (Instr.makeFunc fn first cap).run Try.prog w = .ok (.func fn first cap) w := fun _ _ _ _ => rfl
  have HR0 := Aside0.mk hr0
  have HC0 := Aside0.mk hc0
  have HB := Aside0.mk (Below.refl w.heap.size w)
  clear hr0 hc0
  unfold spring_Press.f at h
  obtain ⟨⟨a, b, is⟩, hf, h⟩ := Option.bind_eq_some_iff.mp h
  dsimp only at h
  have A1 := Aside0.mk hf
  clear hf
  cases is with
  | false =>
    rw [if_neg (by decide)] at h
    simp only [Option.some.injEq, Prod.mk.injEq] at h
    obtain ⟨rfl, rfl⟩ := h
    go_enter Try.func11, Try.ntmps11
    go_wp2_with (first | (go_at_call 9; (with_reducible refine (spring_Force.calls k _ _ l0 a1 a b false _ HR0.out HC0.out A1.out).mono ?_); rintro e w3 ⟨rfl, hb⟩; have HB3 := bs HB hb; clear hb))
    go_ret2
    exact ⟨_, rfl, Kd.R_nil _ _ _ _ _, below_alloc (below_alloc HB3.out _) _⟩
  | true =>
    rw [if_pos rfl] at h
    obtain ⟨t, ht, h⟩ := Option.bind_eq_some_iff.mp h
    simp only [Option.some.injEq, Prod.mk.injEq] at h
    obtain ⟨rfl, rfl⟩ := h
    have A2 := Aside0.mk ht
    clear ht
    go_enter Try.func11, Try.ntmps11
    go_wp2_with (first | (go_at_call 9; (with_reducible refine (spring_Force.calls k _ _ l0 a1 a b true _ HR0.out HC0.out A1.out).mono ?_); rintro e w3 ⟨rfl, hb⟩; have HB3 := bs HB hb; have P1 := Aside0.mk (spring_Press.two1 w3 3 a b); have P2 := Aside0.mk (spring_Press.two2 w3 3 a b); have HB4 := Aside0.mk (below_alloc (below_alloc HB3.out (.cells #[.int .i64 a] 3)) (.cells #[.int .i64 b] 3)); clear hb) | (go_at_call 25; (with_reducible refine (spring_Press.eachc k a b w3.heap.size (w3.heap.size + 1) _ _ l0 t _ P1.out P2.out (Kd.C_alloc (Kd.C_alloc (Kd.C_below HR0.out HB3.out) _) _) HC0.out A2.out).mono ?_); rintro e w5 ⟨v5, rfl, ho, hb⟩; have HO5 := Aside0.mk ho; have HB5 := bs HB4 hb; clear ho hb))
    go_ret2
    exact ⟨_, rfl, Kd.R_lower HO5.out HB4.out.size, HB5.out⟩

/-! ### fuseeref06_Ints: function 17 -/
def fuseeref06_Ints.l0 : Nat → List Int → List Int → Int → Option (Bool)
  | 0, _, _, _ => none
  | k + 1, x0, x1, x5 => if x5 < (x0.length : Int) then (if 0 ≤ x5 then (if x5 < (x1.length : Int) then (if (rd x0 x5) = (rd x1 x5) then (fuseeref06_Ints.l0 k x0 x1 (wrap64 (x5 + 1))) else (some false)) else (none)) else (none)) else (some true)
def fuseeref06_Ints.f (k : Nat) (l0 : List Int) (l1 : List Int) : Option (Bool) := if (l0.length : Int) = (l1.length : Int) then (fuseeref06_Ints.l0 k l0 l1 0) else (some false)
theorem fuseeref06_Ints.mono_l : ∀ k, (∀ y0 y1 y2, LeO (fuseeref06_Ints.l0 k y0 y1 y2) (fuseeref06_Ints.l0 (k + 1) y0 y1 y2))
  | 0 => fun _ _ _ r h => by simp [fuseeref06_Ints.l0] at h
  | k + 1 => by
    have ih0 := fuseeref06_Ints.mono_l k
    · intro y0 y1 y2
      unfold fuseeref06_Ints.l0
      repeat' first
      | (with_reducible exact ih0 _ _ _)
      | (with_reducible exact LeO.refl _)
      | (with_reducible exact LeO.none _)
      | (with_reducible refine LeO.ite ?_ ?_)
      | (with_reducible refine LeO.bind ?_ (fun _ => ?_))
      | exact ih0 _ _ _
      | exact LeO.none _
      | refine LeO.ite ?_ ?_
      | refine LeO.bind ?_ (fun _ => ?_)
theorem fuseeref06_Ints.mono : ∀ a0 a1 k, LeO (fuseeref06_Ints.f k a0 a1) (fuseeref06_Ints.f (k + 1) a0 a1) := by
  intro a0 a1 k
  have ih0 := fuseeref06_Ints.mono_l k
  unfold fuseeref06_Ints.f
  repeat' first
      | (with_reducible exact ih0 _ _ _)
      | (with_reducible exact LeO.refl _)
      | (with_reducible exact LeO.none _)
      | (with_reducible refine LeO.ite ?_ ?_)
      | (with_reducible refine LeO.bind ?_ (fun _ => ?_))
      | exact ih0 _ _ _
      | exact LeO.none _
      | refine LeO.ite ?_ ?_
      | refine LeO.bind ?_ (fun _ => ?_)
set_option maxHeartbeats 8000000 in
set_option maxRecDepth 100000 in
theorem fuseeref06_Ints.calls (k : Nat) (A0 : Option Addr) (c0 : Nat) (l0 : List Int) (A1 : Option Addr) (c1 : Nat) (l1 : List Int) (r : Bool) (w : World) (hr0 : Kd.C (Kd.int .i64) w A0 l0.length l0) (hc0 : l0.length ≤ c0) (hr1 : Kd.C (Kd.int .i64) w A1 l1.length l1) (hc1 : l1.length ≤ c1) (h : fuseeref06_Ints.f k l0 l1 = some r) :
    Calls Try.prog 17 #[.slice A0 l0.length c0, .slice A1 l1.length c1] w fun e w' => e = .returned (.bool r) ∧ Drawn0 w w' := by
  have HR0 := Aside0.mk hr0
  have HC0 := Aside0.mk hc0
  clear hr0 hc0
  have HR1 := Aside0.mk hr1
  have HC1 := Aside0.mk hc1
  clear hr1 hc1
  have H : (if (l0.length : Int) = (l1.length : Int) then (fuseeref06_Ints.l0 k l0 l1 0) else (some false)) = some r := h
  clear h
  by_cases c3 : (l0.length : Int) = (l1.length : Int)
  · rw [if_pos c3] at H
    have c3b0 : ((l0.length : Int) == (l1.length : Int)) = true := beq_iff_eq.mpr c3
    have c3b1 : ((l0.length : Int) != (l1.length : Int)) = false := bne_eq_false_iff_eq.mpr c3
    have c3b2 : (l0.length == l1.length) = true := by first | simpa using c3 | (simp at c3 ⊢; omega)
    clear c3
    have H' := Aside0.mk H
    clear H
    go_enter Try.func17, Try.ntmps17
    go_wp2
    repeat (go_quiet (fail); try go_wp2)
    go_loopg [5] k (fun kq v5 w' => ∃ (x5_1 : Int), v5 = .int .i64 x5_1 ∧ Aside0 (fuseeref06_Ints.l0 kq l0 l1 x5_1 = some r) ∧ Aside0 (kq ≤ k) ∧ Drawn0 w w')
    case atStart => exact ⟨(0), (by first | rfl | (simp; done) | (simp [*]; done)), H', ⟨Nat.le_refl _⟩, by repeat (first | exact Drawn0.refl _ | apply Drawn0.step)⟩
    case round =>
      clear H'
      try clear c1
      try clear p2
      try clear c3
      try clear c3b0
      try clear c3b1
      try clear c3b2
      obtain ⟨x5_1, rfl, HA, HK1, ⟨m1, rfl⟩⟩ := hrel
      cases gk with
      | zero => exact absurd HA.out (by simp [fuseeref06_Ints.l0])
      | succ k1 =>
        have H := HA.out
        clear HA
        simp only [fuseeref06_Ints.l0] at H
        by_cases c4 : x5_1 < (l0.length : Int)
        · rw [if_pos c4] at H
          have c4b0 : decide (x5_1 < (l0.length : Int)) = true := decide_eq_true c4
          clear c4
          by_cases c5 : 0 ≤ x5_1
          · rw [if_pos c5] at H
            have c5b0 : decide (0 ≤ x5_1) = true := decide_eq_true c5
            clear c5
            by_cases c6 : x5_1 < (l1.length : Int)
            · rw [if_pos c6] at H
              have c6b0 : decide (x5_1 < (l1.length : Int)) = true := decide_eq_true c6
              clear c6
              by_cases c7 : (rd l0 x5_1) = (rd l1 x5_1)
              · rw [if_pos c7] at H
                have c7b0 : ((rd l0 x5_1) == (rd l1 x5_1)) = true := beq_iff_eq.mpr c7
                have c7b1 : ((rd l0 x5_1) != (rd l1 x5_1)) = false := bne_eq_false_iff_eq.mpr c7
                clear c7
                have H' := Aside0.mk H
                clear H
                have p137 : 0 ≤ (x5_1 : Int) := of_decide_eq_true (by first | (with_reducible assumption) | assumption)
                have q137 : x5_1 < (l0.length : Int) := of_decide_eq_true (by first | (with_reducible assumption) | assumption)
                obtain ⟨ad137, e137, hx137_0⟩ := Kd.at_int HR0.out x5_1 p137 q137
                cases e137
                replace p137 := eq_true p137
                replace q137 := eq_true q137
                have p138 : 0 ≤ (x5_1 : Int) := of_decide_eq_true (by first | (with_reducible assumption) | assumption)
                have q138 : x5_1 < (l1.length : Int) := of_decide_eq_true (by first | (with_reducible assumption) | assumption)
                obtain ⟨ad138, e138, hx138_0⟩ := Kd.at_int HR1.out x5_1 p138 q138
                cases e138
                replace p138 := eq_true p138
                replace q138 := eq_true q138
                go_wp2
                repeat (go_quiet (fail); try go_wp2)
                go_roundg k1
                case measure => have := HK1.out; omega
                case rel => exact ⟨(wrap64 (x5_1 + 1)), (by first | rfl | (simp; done) | (simp [*]; done)), H', ⟨by have := HK1.out; omega⟩, by repeat (first | exact Drawn0.refl _ | apply Drawn0.step)⟩
              · rw [if_neg c7] at H
                have c7b0 : ((rd l0 x5_1) == (rd l1 x5_1)) = false := beq_eq_false_iff_ne.mpr c7
                have c7b1 : ((rd l0 x5_1) != (rd l1 x5_1)) = true := bne_iff_ne.mpr c7
                obtain rfl := Option.some.inj H
                have p137 : 0 ≤ (x5_1 : Int) := of_decide_eq_true (by first | (with_reducible assumption) | assumption)
                have q137 : x5_1 < (l0.length : Int) := of_decide_eq_true (by first | (with_reducible assumption) | assumption)
                obtain ⟨ad137, e137, hx137_0⟩ := Kd.at_int HR0.out x5_1 p137 q137
                cases e137
                replace p137 := eq_true p137
                replace q137 := eq_true q137
                have p138 : 0 ≤ (x5_1 : Int) := of_decide_eq_true (by first | (with_reducible assumption) | assumption)
                have q138 : x5_1 < (l1.length : Int) := of_decide_eq_true (by first | (with_reducible assumption) | assumption)
                obtain ⟨ad138, e138, hx138_0⟩ := Kd.at_int HR1.out x5_1 p138 q138
                cases e138
                replace p138 := eq_true p138
                replace q138 := eq_true q138
                go_wp2
                repeat (go_quiet (fail); try go_wp2)
                go_ret
                exact ⟨by first | rfl | (simp; done) | (simp [*]; done) | (exfalso; first | contradiction | (revert c3b0 c7b0; simp +contextual; done)), by repeat (first | exact Drawn0.refl _ | apply Drawn0.step)⟩
            · rw [if_neg c6] at H
              exact absurd H (by simp)
          · rw [if_neg c5] at H
            exact absurd H (by simp)
        · rw [if_neg c4] at H
          have c4b0 : decide (x5_1 < (l0.length : Int)) = false := decide_eq_false c4
          clear c4
          obtain rfl := Option.some.inj H
          go_wp2
          repeat (go_quiet (fail); try go_wp2)
          go_ret
          exact ⟨by first | rfl | (simp; done) | (simp [*]; done) | (exfalso; contradiction), by repeat (first | exact Drawn0.refl _ | apply Drawn0.step)⟩
  · rw [if_neg c3] at H
    have c3b0 : ((l0.length : Int) == (l1.length : Int)) = false := beq_eq_false_iff_ne.mpr c3
    have c3b1 : ((l0.length : Int) != (l1.length : Int)) = true := bne_iff_ne.mpr c3
    have c3b2 : (l0.length == l1.length) = false := by first | simpa using c3 | (simp at c3 ⊢; omega)
    obtain rfl := Option.some.inj H
    go_enter Try.func17, Try.ntmps17
    go_wp2
    repeat (go_quiet (fail); try go_wp2)
    go_ret
    exact ⟨by first | rfl | (simp; done) | (simp [*]; done) | (exfalso; contradiction), by repeat (first | exact Drawn0.refl _ | apply Drawn0.step)⟩

/-! ### fuseelaw07_awake: function 8 -/
def fuseelaw07_awake.f (k : Nat)  : Option (Bool) := (some (([(⟨100, 50, 1⟩ : S33), (⟨100, 50, 3⟩ : S33)] : List (S33)) : List (S33))).bind fun y139 => ((spring_Force.f k y139 160).bind fun bt142 => ((spring_Press.f k y139 160).bind fun bt145 => ((spring_May.f k y139).bind fun t149 => (if t149 = true then ((spring_Room.f k y139 100).bind fun t150 => (if t150 = true then ((spring_Room.f k y139 99).bind fun t151 => (if t151 = true then (none) else (if bt142.1 = 10 then (if bt142.2.1 = 1 then (if bt142.2.2 = true then (if bt145.2 = true then ((fuseeref06_Ints.f k bt145.1 (([90, 70] : List Int))).bind fun t155 => (some t155)) else (none)) else (none)) else (none)) else (none)))) else (none))) else (none)))))
theorem fuseelaw07_awake.mono : ∀ k, LeO (fuseelaw07_awake.f k ) (fuseelaw07_awake.f (k + 1) ) := by
  intro  k
  unfold fuseelaw07_awake.f
  repeat' first
      | (with_reducible exact fuseeref06_Ints.mono _ _ _)
      | (with_reducible exact spring_Force.mono _ _ _)
      | (with_reducible exact spring_May.mono _ _)
      | (with_reducible exact spring_Press.mono _ _ _)
      | (with_reducible exact spring_Room.mono _ _ _)
      | (with_reducible exact LeO.refl _)
      | (with_reducible exact LeO.none _)
      | (with_reducible refine LeO.ite ?_ ?_)
      | (with_reducible refine LeO.bind ?_ (fun _ => ?_))
      | exact fuseeref06_Ints.mono _ _ _
      | exact spring_Force.mono _ _ _
      | exact spring_May.mono _ _
      | exact spring_Press.mono _ _ _
      | exact spring_Room.mono _ _ _
      | exact LeO.none _
      | refine LeO.ite ?_ ?_
      | refine LeO.bind ?_ (fun _ => ?_)
set_option maxHeartbeats 8000000 in
set_option maxRecDepth 100000 in
theorem fuseelaw07_awake.calls (k : Nat)  (r : Bool) (w : World) (h : fuseelaw07_awake.f k  = some r) :
    Calls Try.prog 8 #[] w fun e w' => e = .returned (.bool r) ∧ Below w.heap.size w w' := by
  have hu33 := Try.underlying33
  have HB := Aside0.mk (Below.refl w.heap.size w)
  have H : ((some (([(⟨100, 50, 1⟩ : S33), (⟨100, 50, 3⟩ : S33)] : List (S33)) : List (S33))).bind fun y139 => ((spring_Force.f k y139 160).bind fun bt142 => ((spring_Press.f k y139 160).bind fun bt145 => ((spring_May.f k y139).bind fun t149 => (if t149 = true then ((spring_Room.f k y139 100).bind fun t150 => (if t150 = true then ((spring_Room.f k y139 99).bind fun t151 => (if t151 = true then (none) else (if bt142.1 = 10 then (if bt142.2.1 = 1 then (if bt142.2.2 = true then (if bt145.2 = true then ((fuseeref06_Ints.f k bt145.1 (([90, 70] : List Int))).bind fun t155 => (some t155)) else (none)) else (none)) else (none)) else (none)))) else (none))) else (none)))))) = some r := h
  clear h
  obtain ⟨y139, hy139⟩ : ∃ y_ : List (S33), y_ = (([(⟨100, 50, 1⟩ : S33), (⟨100, 50, 3⟩ : S33)] : List (S33))) := ⟨_, rfl⟩
  replace H : ((spring_Force.f k y139 160).bind fun bt142 => ((spring_Press.f k y139 160).bind fun bt145 => ((spring_May.f k y139).bind fun t149 => (if t149 = true then ((spring_Room.f k y139 100).bind fun t150 => (if t150 = true then ((spring_Room.f k y139 99).bind fun t151 => (if t151 = true then (none) else (if bt142.1 = 10 then (if bt142.2.1 = 1 then (if bt142.2.2 = true then (if bt145.2 = true then ((fuseeref06_Ints.f k bt145.1 (([90, 70] : List Int))).bind fun t155 => (some t155)) else (none)) else (none)) else (none)) else (none)))) else (none))) else (none))))) = some r := by first | (rw [hy139]; with_reducible exact H) | (have H2_ := (Option.bind_some _ _).symm.trans H; rw [hy139]; with_reducible exact H2_) | (have H2_ := (Option.bind_some _ _).symm.trans H; with_reducible exact H2_) | with_reducible exact H | (rw [hy139]; exact H) | exact H
  have Ny139 := Aside0.mk hy139
  clear hy139
  replace H := Option.bind_eq_some_iff.mp H
  obtain ⟨⟨t142, t143, t144⟩, A10, H⟩ := H
  try dsimp only at H
  have A1 := Aside0.mk A10
  clear A10
  replace H := Option.bind_eq_some_iff.mp H
  obtain ⟨⟨t145, t146⟩, A20, H⟩ := H
  try dsimp only at H
  have A2 := Aside0.mk A20
  clear A20
  replace H := Option.bind_eq_some_iff.mp H
  obtain ⟨t149, A30, H⟩ := H
  try dsimp only at H
  have A3 := Aside0.mk A30
  clear A30
  by_cases c4 : t149 = true
  · subst c4
    rw [if_pos rfl] at H
    replace H := Option.bind_eq_some_iff.mp H
    obtain ⟨t150, A50, H⟩ := H
    try dsimp only at H
    have A5 := Aside0.mk A50
    clear A50
    by_cases c6 : t150 = true
    · subst c6
      rw [if_pos rfl] at H
      replace H := Option.bind_eq_some_iff.mp H
      obtain ⟨t151, A70, H⟩ := H
      try dsimp only at H
      have A7 := Aside0.mk A70
      clear A70
      by_cases c8 : t151 = true
      · subst c8
        rw [if_pos rfl] at H
        exact absurd H (by simp)
      · replace c8 := Bool.eq_false_iff.mpr c8
        subst c8
        rw [if_neg (show ¬ (false = true) by decide)] at H
        by_cases c9 : t142 = 10
        · rw [if_pos c9] at H
          have c9b0 : (t142 == 10) = true := beq_iff_eq.mpr c9
          have c9b1 : (t142 != 10) = false := bne_eq_false_iff_eq.mpr c9
          clear c9
          by_cases c10 : t143 = 1
          · rw [if_pos c10] at H
            have c10b0 : (t143 == 1) = true := beq_iff_eq.mpr c10
            have c10b1 : (t143 != 1) = false := bne_eq_false_iff_eq.mpr c10
            clear c10
            by_cases c11 : t144 = true
            · subst c11
              rw [if_pos rfl] at H
              by_cases c12 : t146 = true
              · subst c12
                rw [if_pos rfl] at H
                obtain ⟨y152, hy152⟩ : ∃ y_ : List Int, y_ = (([90, 70] : List Int)) := ⟨_, rfl⟩
                replace H : ((fuseeref06_Ints.f k t145 y152).bind fun t155 => (some t155)) = some r := by first | (rw [hy152]; with_reducible exact H) | (have H2_ := (Option.bind_some _ _).symm.trans H; rw [hy152]; with_reducible exact H2_) | (have H2_ := (Option.bind_some _ _).symm.trans H; with_reducible exact H2_) | with_reducible exact H | (rw [hy152]; exact H) | exact H
                have Ny152 := Aside0.mk hy152
                clear hy152
                replace H := Option.bind_eq_some_iff.mp H
                obtain ⟨t155, A130, H⟩ := H
                try dsimp only at H
                have A13 := Aside0.mk A130
                clear A130
                obtain rfl := Option.some.inj H
                go_enter Try.func8, Try.ntmps8
                go_wp2_with (first | ((with_reducible refine gate_dst (N := 9) rfl ?_); (try (refine gate_guard (by rfl) ?_; dsimp only)); refine Kd.R_lit k33 _ 33 ?hg (N := 9) ?hd (xs := ([(⟨100, 50, 1⟩ : S33), (⟨100, 50, 3⟩ : S33)] : List (S33))) (inner := [.int .i64 100, .int .i64 50, .int .i64 1, .int .i64 100, .int .i64 50, .int .i64 3]) (ok := fun _ => True) (okp := fun _ => True) ?hr ?hp (fun _ hk => hk) trivial (Below.refl _ _) (Nat.le_refl _) (by simp) ?_; (case hd => rfl); (case hg => rfl); (case hr => first | (go_simp; done) | (go_simp; rfl)); (case hp => exact (Reps.c3 (show Kd.M k33 _ _ _ (⟨100, 50, 1⟩ : S33) [.int .i64 100, .int .i64 50, .int .i64 1] from (k33_mkM _ _ _ (⟨100, 50, 1⟩ : S33) )) (Reps.c3 (show Kd.M k33 _ _ _ (⟨100, 50, 3⟩ : S33) [.int .i64 100, .int .i64 50, .int .i64 3] from (k33_mkM _ _ _ (⟨100, 50, 3⟩ : S33) )) (Reps.none _ _)))); intro v140 w14 ho15 hb hg_ hnew_; clear hg_ hnew_; (first | rw [← Ny139.out] at ho15 | (simp only [Int.reduceToNat] at ho15; rw [← Ny139.out] at ho15)); have n0_ := Aside0.mk (Kd.R_lower ho15 (below_size (by repeat (first | (with_reducible first | exact HB.out | apply below_alloc | apply pw_below_drewN | apply below_drew1) | exact HB.out)))); have n1_ := bs HB hb; clear HB; have HO141 := n0_; have HB := n1_; clear n0_ n1_; clear hb ho15; obtain ⟨Ao16, co16, eo16⟩ := Kd.R_slice HO141.out; subst eo16) | ((with_reducible refine gate_callee (f := 9) rfl ?_); refine goesL_ (some 12) rfl rfl Try.func9 (by kernel_rfl) rfl #[.slice Ao16 y139.length co16, .int .i64 160] rfl (by (try simp only [List.map_toArray, List.map_cons, List.map_nil]); first | done | rfl | (simp only [List.length_drop, List.length_take]; rfl)) ?_; (with_reducible refine (spring_Force.calls k _ _ y139 160 t142 t143 true _ ?side1 ?side2 A1.out).mono ?_); (case side1 => repeat (first | exact (Kd.R_reads' HO141.out).2.2 | (with_reducible refine Kd.C_alloc ?_ _) | (with_reducible refine Kd.C_drewN ?_ _) | (with_reducible refine Kd.C_drew ?_))); (case side2 => exact (Kd.R_reads' HO141.out).2.1); rintro e w17 ⟨rfl, hb⟩; refine ⟨_, rfl, ?_⟩; have n0_ := Aside0.mk (Kd.R_below (by (with_reducible repeat (first | apply Kd.R_alloc | apply Kd.R_drewN | apply Kd.R_drew)); exact HO141.out) hb); have n1_ := bs HB hb; clear HO141; clear HB; have HO141 := n0_; have HB := n1_; clear n0_ n1_; (try clear hb); (try clear hb2); (try clear hk); (try clear hi)) | ((with_reducible refine gate_callee (f := 11) rfl ?_); refine goesL_ (some 18) rfl rfl Try.func11 (by kernel_rfl) rfl #[.slice Ao16 y139.length co16, .int .i64 160] rfl (by (try simp only [List.map_toArray, List.map_cons, List.map_nil]); first | done | rfl | (simp only [List.length_drop, List.length_take]; rfl)) ?_; (with_reducible refine (spring_Press.calls k _ _ y139 160 t145 true _ ?side1 ?side2 A2.out).mono ?_); (case side1 => repeat (first | exact (Kd.R_reads' HO141.out).2.2 | (with_reducible refine Kd.C_alloc ?_ _) | (with_reducible refine Kd.C_drewN ?_ _) | (with_reducible refine Kd.C_drew ?_))); (case side2 => exact (Kd.R_reads' HO141.out).2.1); rintro e w18 ⟨v147, rfl, ho0, hb⟩; refine ⟨_, rfl, ?_⟩; have n0_ := Aside0.mk (Kd.R_below (by (with_reducible repeat (first | apply Kd.R_alloc | apply Kd.R_drewN | apply Kd.R_drew)); exact HO141.out) hb); have n1_ := Aside0.mk (Kd.R_lower ho0 (below_size (by repeat (first | (with_reducible first | exact HB.out | apply below_alloc | apply pw_below_drewN | apply below_drew1) | exact HB.out)))); have n2_ := bs HB hb; clear HO141; clear HB; have HO141 := n0_; have HO148 := n1_; have HB := n2_; clear n0_ n1_ n2_; (try clear hb); (try clear hb2); (try clear hk); (try clear hi); (try clear ho0)) | ((with_reducible refine gate_callee (f := 13) rfl ?_); refine goesL_ (some 22) rfl rfl Try.func13 (by kernel_rfl) rfl #[.slice Ao16 y139.length co16] rfl (by (try simp only [List.map_toArray, List.map_cons, List.map_nil]); first | done | rfl | (simp only [List.length_drop, List.length_take]; rfl)) ?_; (with_reducible refine (spring_May.calls k _ _ y139 true _ ?side1 ?side2 A3.out).mono ?_); (case side1 => repeat (first | exact (Kd.R_reads' HO141.out).2.2 | (with_reducible refine Kd.C_alloc ?_ _) | (with_reducible refine Kd.C_drewN ?_ _) | (with_reducible refine Kd.C_drew ?_))); (case side2 => exact (Kd.R_reads' HO141.out).2.1); rintro e w19 ⟨rfl, hb⟩; refine ⟨_, rfl, ?_⟩; have n0_ := Aside0.mk (Kd.R_below (by (with_reducible repeat (first | apply Kd.R_alloc | apply Kd.R_drewN | apply Kd.R_drew)); exact HO141.out) hb); have n1_ := Aside0.mk (Kd.R_below (by (with_reducible repeat (first | apply Kd.R_alloc | apply Kd.R_drewN | apply Kd.R_drew)); exact HO148.out) hb); have n2_ := bs HB hb; clear HO141; clear HO148; clear HB; have HO141 := n0_; have HO148 := n1_; have HB := n2_; clear n0_ n1_ n2_; (try clear hb); (try clear hb2); (try clear hk); (try clear hi)) | (go_at_call 15; (with_reducible refine (spring_Room.calls k _ _ y139 100 true _ ?side1 ?side2 A5.out).mono ?_); (case side1 => repeat (first | exact (Kd.R_reads' HO141.out).2.2 | (with_reducible refine Kd.C_alloc ?_ _) | (with_reducible refine Kd.C_drewN ?_ _) | (with_reducible refine Kd.C_drew ?_))); (case side2 => exact (Kd.R_reads' HO141.out).2.1); rintro e w20 ⟨rfl, hb⟩; have n0_ := Aside0.mk (Kd.R_below (by (with_reducible repeat (first | apply Kd.R_alloc | apply Kd.R_drewN | apply Kd.R_drew)); exact HO141.out) hb); have n1_ := Aside0.mk (Kd.R_below (by (with_reducible repeat (first | apply Kd.R_alloc | apply Kd.R_drewN | apply Kd.R_drew)); exact HO148.out) hb); have n2_ := bs HB hb; clear HO141; clear HO148; clear HB; have HO141 := n0_; have HO148 := n1_; have HB := n2_; clear n0_ n1_ n2_; (try clear hb); (try clear hb2); (try clear hk); (try clear hi)) | (go_at_call 15; (with_reducible refine (spring_Room.calls k _ _ y139 99 false _ ?side1 ?side2 A7.out).mono ?_); (case side1 => repeat (first | exact (Kd.R_reads' HO141.out).2.2 | (with_reducible refine Kd.C_alloc ?_ _) | (with_reducible refine Kd.C_drewN ?_ _) | (with_reducible refine Kd.C_drew ?_))); (case side2 => exact (Kd.R_reads' HO141.out).2.1); rintro e w21 ⟨rfl, hb⟩; have n0_ := Aside0.mk (Kd.R_below (by (with_reducible repeat (first | apply Kd.R_alloc | apply Kd.R_drewN | apply Kd.R_drew)); exact HO141.out) hb); have n1_ := Aside0.mk (Kd.R_below (by (with_reducible repeat (first | apply Kd.R_alloc | apply Kd.R_drewN | apply Kd.R_drew)); exact HO148.out) hb); have n2_ := bs HB hb; clear HO141; clear HO148; clear HB; have HO141 := n0_; have HO148 := n1_; have HB := n2_; clear n0_ n1_ n2_; (try clear hb); (try clear hb2); (try clear hk); (try clear hi)) | ((with_reducible refine gate_dst (N := 48) rfl ?_); (try (refine gate_guard (by rfl) ?_; dsimp only)); refine Kd.R_lit (Kd.int .i64) _ 3 ?hg (N := 48) ?hd (xs := ([90, 70] : List Int)) (inner := [.int .i64 90, .int .i64 70]) (ok := fun _ => True) (okp := fun _ => True) ?hr ?hp (fun _ hk => hk) trivial (Below.refl _ _) (Nat.le_refl _) (by simp) ?_; (case hd => rfl); (case hg => rfl); (case hr => first | (go_simp; done) | (go_simp; rfl)); (case hp => exact (Reps.one (show Kd.M (Kd.int .i64) _ _ _ 90 [.int .i64 90] from rfl) (Reps.one (show Kd.M (Kd.int .i64) _ _ _ 70 [.int .i64 70] from rfl) (Reps.none _ _)))); intro v153 w22 ho23 hb hg_ hnew_; clear hg_ hnew_; (first | rw [← Ny152.out] at ho23 | (simp only [Int.reduceToNat] at ho23; rw [← Ny152.out] at ho23)); have n0_ := Aside0.mk (Kd.R_below (by (with_reducible repeat (first | apply Kd.R_alloc | apply Kd.R_drewN | apply Kd.R_drew)); exact HO141.out) hb); have n1_ := Aside0.mk (Kd.R_elder' (by (with_reducible repeat (first | apply Kd.R_alloc | apply Kd.R_drewN | apply Kd.R_drew)); exact HO148.out) (Kd.R_base ho23) hb); have n2_ := Aside0.mk (Kd.R_lower (Kd.R_new' ho23 (Kd.R_lt (by (with_reducible repeat (first | apply Kd.R_alloc | apply Kd.R_drewN | apply Kd.R_drew)); exact HO148.out))) (below_size (by repeat (first | (with_reducible first | exact HB.out | apply below_alloc | apply pw_below_drewN | apply below_drew1) | exact HB.out)))); have n3_ := bs HB hb; clear HO141; clear HO148; clear HB; have HO141 := n0_; have HO148 := n1_; have HO154 := n2_; have HB := n3_; clear n0_ n1_ n2_ n3_; clear hb ho23; obtain ⟨Ao24, co24, eo24⟩ := Kd.R_slice HO148.out; subst eo24; obtain ⟨Ao25, co25, eo25⟩ := Kd.R_slice HO154.out; subst eo25) | (go_at_call 17; (with_reducible refine (fuseeref06_Ints.calls k _ _ t145 _ _ y152 t155 _ ?side1 ?side2 ?side3 ?side4 A13.out).mono ?_); (case side1 => repeat (first | exact (Kd.R_reads' HO148.out).2.2 | (with_reducible refine Kd.C_alloc ?_ _) | (with_reducible refine Kd.C_drewN ?_ _) | (with_reducible refine Kd.C_drew ?_))); (case side2 => exact (Kd.R_reads' HO148.out).2.1); (case side3 => repeat (first | exact (Kd.R_reads' HO154.out).2.2 | (with_reducible refine Kd.C_alloc ?_ _) | (with_reducible refine Kd.C_drewN ?_ _) | (with_reducible refine Kd.C_drew ?_))); (case side4 => exact (Kd.R_reads' HO154.out).2.1); rintro e w' ⟨rfl, ⟨nd, rfl⟩⟩))
                go_ret
                exact ⟨by first | rfl | (simp [errW_none, errW_some] <;> rfl) | (simp [*, errW_none, errW_some] <;> rfl) | (exfalso; first | contradiction | (revert c9b0 c10b0; simp +contextual; done)), by repeat (first | (with_reducible first | exact HB.out | apply below_alloc | apply pw_below_drewN | apply below_drew1) | exact HB.out)⟩
              · replace c12 := Bool.eq_false_iff.mpr c12
                subst c12
                rw [if_neg (show ¬ (false = true) by decide)] at H
                exact absurd H (by simp)
            · replace c11 := Bool.eq_false_iff.mpr c11
              subst c11
              rw [if_neg (show ¬ (false = true) by decide)] at H
              exact absurd H (by simp)
          · rw [if_neg c10] at H
            exact absurd H (by simp)
        · rw [if_neg c9] at H
          exact absurd H (by simp)
    · replace c6 := Bool.eq_false_iff.mpr c6
      subst c6
      rw [if_neg (show ¬ (false = true) by decide)] at H
      exact absurd H (by simp)
  · replace c4 := Bool.eq_false_iff.mpr c4
    subst c4
    rw [if_neg (show ¬ (false = true) by decide)] at H
    exact absurd H (by simp)

end Go.Proofs.Ytencdmcidhojgaa.P
