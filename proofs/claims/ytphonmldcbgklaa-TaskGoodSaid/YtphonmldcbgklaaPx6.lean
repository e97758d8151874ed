-- Written by a program of this session (hprint.py), out of the translation; functions that the print does not take are given by hand.
import Derived.Test.YtphonmldcbgklaaPx0
namespace Go.Proofs.Ytphonmldcbgklaa.P
open Go.RowKit Go.Proofs.YtphonmldcbgklaaM Go.Proofs.YtphonmldcbgklaaW.PrintWords Go.Proofs.YtphonmldcbgklaaW.PrintLast Go.Proofs.YtphonmldcbgklaaW.PrintMore
attribute [local go_sem] max2_int min2_int max_two min_two max_three min_three max_four min_four   -- for this text's walks alone
set_option linter.unusedVariables false
set_option linter.unusedSimpArgs false

/-! ### spec_parts: function 40 -/
set_option maxHeartbeats 8000000 in
set_option maxRecDepth 100000 in
theorem spec_to.calls (n : Int) (w : World) :
    Calls Try.prog 45 #[.int .i64 n] w fun e w' => ∃ b : Nat, e = .returned (.func (.func 55) #[] #[.pointer (some ⟨b, 0, none⟩)]) ∧ Below w.heap.size w w' ∧ w.heap.size ≤ b ∧ w'.heap[b]? = some (.cells #[.int .i64 n] 3 (0, 0)) := by
  have hmf : ∀ (fn : Fn) (first cap : Array Value) (w : World), (Instr.makeFunc fn first cap).run Try.prog w = .ok (.func fn first cap) w := fun _ _ _ _ => rfl
  go_enter Try.func45, Try.ntmps45
  go_wp2
  go_ret
  exact ⟨w.heap.size, rfl, below_alloc (Below.refl _ _) _, Nat.le_refl _, blk_new _ _⟩
set_option maxHeartbeats 8000000 in
set_option maxRecDepth 100000 in
theorem spec_parts.calls (w : World) :
    Calls Try.prog 40 #[] w fun e w' => ∃ (AV : Value) (b1 b2 b3 b4 b5 b6 b7 b8 b9 : Nat), e = .returned AV ∧ ((∀ W, (Instr.index 86 AV (.int .i64 0)).run Try.prog W = .ok (.agg #[.func (.func 44) #[] #[], .func (.func 55) #[] #[.pointer (some ⟨b1, 0, none⟩)], .func (.func 55) #[] #[.pointer (some ⟨b2, 0, none⟩)]]) W) ∧ (∀ W, (Instr.index 86 AV (.int .i64 1)).run Try.prog W = .ok (.agg #[.func (.func 46) #[] #[], .func (.func 47) #[] #[], .func (.func 48) #[] #[]]) W) ∧ (∀ W, (Instr.index 86 AV (.int .i64 2)).run Try.prog W = .ok (.agg #[.func (.func 49) #[] #[], .func (.func 55) #[] #[.pointer (some ⟨b3, 0, none⟩)], .func (.func 55) #[] #[.pointer (some ⟨b4, 0, none⟩)]]) W) ∧ (∀ W, (Instr.index 86 AV (.int .i64 3)).run Try.prog W = .ok (.agg #[.func (.func 50) #[] #[], .func (.func 55) #[] #[.pointer (some ⟨b5, 0, none⟩)], .func (.func 51) #[] #[]]) W) ∧ (∀ W, (Instr.index 86 AV (.int .i64 4)).run Try.prog W = .ok (.agg #[.func (.func 52) #[] #[], .func (.func 55) #[] #[.pointer (some ⟨b6, 0, none⟩)], .func (.func 55) #[] #[.pointer (some ⟨b7, 0, none⟩)]]) W) ∧ (∀ W, (Instr.index 86 AV (.int .i64 5)).run Try.prog W = .ok (.agg #[.func (.func 53) #[] #[], .func (.func 55) #[] #[.pointer (some ⟨b8, 0, none⟩)], .func (.func 55) #[] #[.pointer (some ⟨b9, 0, none⟩)]]) W)) ∧ Below w.heap.size w w' ∧ w'.heap[b1]? = some (.cells #[.int .i64 1] 3 (0, 0)) ∧ w'.heap[b2]? = some (.cells #[.int .i64 6] 3 (0, 0)) ∧ w'.heap[b3]? = some (.cells #[.int .i64 1] 3 (0, 0)) ∧ w'.heap[b4]? = some (.cells #[.int .i64 48] 3 (0, 0)) ∧ w'.heap[b5]? = some (.cells #[.int .i64 1] 3 (0, 0)) ∧ w'.heap[b6]? = some (.cells #[.int .i64 1] 3 (0, 0)) ∧ w'.heap[b7]? = some (.cells #[.int .i64 6] 3 (0, 0)) ∧ w'.heap[b8]? = some (.cells #[.int .i64 0] 3 (0, 0)) ∧ w'.heap[b9]? = some (.cells #[.int .i64 8] 3 (0, 0)) := by
  have hu := Try.underlying85
  go_enter Try.func40, Try.ntmps40
  have B0 := Aside0.mk (below_alloc (Below.refl w.heap.size w) (.cells (#[.nilFunc, .nilFunc, .nilFunc, .nilFunc, .nilFunc, .nilFunc, .nilFunc, .nilFunc, .nilFunc, .nilFunc, .nilFunc, .nilFunc, .nilFunc, .nilFunc, .nilFunc, .nilFunc, .nilFunc, .nilFunc] : Array Value) 86))
  have C0 := Aside0.mk (blk_new w (.cells (#[.nilFunc, .nilFunc, .nilFunc, .nilFunc, .nilFunc, .nilFunc, .nilFunc, .nilFunc, .nilFunc, .nilFunc, .nilFunc, .nilFunc, .nilFunc, .nilFunc, .nilFunc, .nilFunc, .nilFunc, .nilFunc] : Array Value) 86))
  have S0 := Aside0.mk (show w.heap.size < (w.alloc (.cells (#[.nilFunc, .nilFunc, .nilFunc, .nilFunc, .nilFunc, .nilFunc, .nilFunc, .nilFunc, .nilFunc, .nilFunc, .nilFunc, .nilFunc, .nilFunc, .nilFunc, .nilFunc, .nilFunc, .nilFunc, .nilFunc] : Array Value) 86)).heap.size by rw [World.size_alloc]; omega)
  go_wp2_with fail
  refine (spec_to.calls 1 _).mono ?_
  rintro e w1 ⟨b1, rfl, hb, hge, hc⟩
  have D1 := Aside0.mk hc
  have G1 := Aside0.mk (Nat.lt_of_lt_of_le S0.out hge)
  have B1 := Aside0.mk (below_trans B0.out hb)
  have C1 := Aside0.mk (blk_below C0.out hb)
  have S1 := Aside0.mk (Nat.lt_of_lt_of_le S0.out hb.size)
  clear hb hge hc B0 C0 S0
  go_wp2_with fail
  refine (spec_to.calls 6 _).mono ?_
  rintro e w2 ⟨b2, rfl, hb, hge, hc⟩
  have D2 := Aside0.mk hc
  have G2 := Aside0.mk (Nat.lt_of_lt_of_le S1.out hge)
  have B2 := Aside0.mk (below_trans B1.out hb)
  have C2 := Aside0.mk (blk_below C1.out hb)
  have S2 := Aside0.mk (Nat.lt_of_lt_of_le S1.out hb.size)
  replace D1 := Aside0.mk (blk_below D1.out hb)
  clear hb hge hc B1 C1 S1
  go_wp2_with fail
  refine (spec_to.calls 1 _).mono ?_
  rintro e w3 ⟨b3, rfl, hb, hge, hc⟩
  have D3 := Aside0.mk hc
  have G3 := Aside0.mk (Nat.lt_of_lt_of_le S2.out hge)
  have B3 := Aside0.mk (below_trans B2.out hb)
  have C3 := Aside0.mk (blk_below C2.out hb)
  have S3 := Aside0.mk (Nat.lt_of_lt_of_le S2.out hb.size)
  replace D1 := Aside0.mk (blk_below D1.out hb)
  replace D2 := Aside0.mk (blk_below D2.out hb)
  clear hb hge hc B2 C2 S2
  go_wp2_with fail
  refine (spec_to.calls 48 _).mono ?_
  rintro e w4 ⟨b4, rfl, hb, hge, hc⟩
  have D4 := Aside0.mk hc
  have G4 := Aside0.mk (Nat.lt_of_lt_of_le S3.out hge)
  have B4 := Aside0.mk (below_trans B3.out hb)
  have C4 := Aside0.mk (blk_below C3.out hb)
  have S4 := Aside0.mk (Nat.lt_of_lt_of_le S3.out hb.size)
  replace D1 := Aside0.mk (blk_below D1.out hb)
  replace D2 := Aside0.mk (blk_below D2.out hb)
  replace D3 := Aside0.mk (blk_below D3.out hb)
  clear hb hge hc B3 C3 S3
  go_wp2_with fail
  refine (spec_to.calls 1 _).mono ?_
  rintro e w5 ⟨b5, rfl, hb, hge, hc⟩
  have D5 := Aside0.mk hc
  have G5 := Aside0.mk (Nat.lt_of_lt_of_le S4.out hge)
  have B5 := Aside0.mk (below_trans B4.out hb)
  have C5 := Aside0.mk (blk_below C4.out hb)
  have S5 := Aside0.mk (Nat.lt_of_lt_of_le S4.out hb.size)
  replace D1 := Aside0.mk (blk_below D1.out hb)
  replace D2 := Aside0.mk (blk_below D2.out hb)
  replace D3 := Aside0.mk (blk_below D3.out hb)
  replace D4 := Aside0.mk (blk_below D4.out hb)
  clear hb hge hc B4 C4 S4
  go_wp2_with fail
  refine (spec_to.calls 1 _).mono ?_
  rintro e w6 ⟨b6, rfl, hb, hge, hc⟩
  have D6 := Aside0.mk hc
  have G6 := Aside0.mk (Nat.lt_of_lt_of_le S5.out hge)
  have B6 := Aside0.mk (below_trans B5.out hb)
  have C6 := Aside0.mk (blk_below C5.out hb)
  have S6 := Aside0.mk (Nat.lt_of_lt_of_le S5.out hb.size)
  replace D1 := Aside0.mk (blk_below D1.out hb)
  replace D2 := Aside0.mk (blk_below D2.out hb)
  replace D3 := Aside0.mk (blk_below D3.out hb)
  replace D4 := Aside0.mk (blk_below D4.out hb)
  replace D5 := Aside0.mk (blk_below D5.out hb)
  clear hb hge hc B5 C5 S5
  go_wp2_with fail
  refine (spec_to.calls 6 _).mono ?_
  rintro e w7 ⟨b7, rfl, hb, hge, hc⟩
  have D7 := Aside0.mk hc
  have G7 := Aside0.mk (Nat.lt_of_lt_of_le S6.out hge)
  have B7 := Aside0.mk (below_trans B6.out hb)
  have C7 := Aside0.mk (blk_below C6.out hb)
  have S7 := Aside0.mk (Nat.lt_of_lt_of_le S6.out hb.size)
  replace D1 := Aside0.mk (blk_below D1.out hb)
  replace D2 := Aside0.mk (blk_below D2.out hb)
  replace D3 := Aside0.mk (blk_below D3.out hb)
  replace D4 := Aside0.mk (blk_below D4.out hb)
  replace D5 := Aside0.mk (blk_below D5.out hb)
  replace D6 := Aside0.mk (blk_below D6.out hb)
  clear hb hge hc B6 C6 S6
  go_wp2_with fail
  refine (spec_to.calls 0 _).mono ?_
  rintro e w8 ⟨b8, rfl, hb, hge, hc⟩
  have D8 := Aside0.mk hc
  have G8 := Aside0.mk (Nat.lt_of_lt_of_le S7.out hge)
  have B8 := Aside0.mk (below_trans B7.out hb)
  have C8 := Aside0.mk (blk_below C7.out hb)
  have S8 := Aside0.mk (Nat.lt_of_lt_of_le S7.out hb.size)
  replace D1 := Aside0.mk (blk_below D1.out hb)
  replace D2 := Aside0.mk (blk_below D2.out hb)
  replace D3 := Aside0.mk (blk_below D3.out hb)
  replace D4 := Aside0.mk (blk_below D4.out hb)
  replace D5 := Aside0.mk (blk_below D5.out hb)
  replace D6 := Aside0.mk (blk_below D6.out hb)
  replace D7 := Aside0.mk (blk_below D7.out hb)
  clear hb hge hc B7 C7 S7
  go_wp2_with fail
  refine (spec_to.calls 8 _).mono ?_
  rintro e w9 ⟨b9, rfl, hb, hge, hc⟩
  have D9 := Aside0.mk hc
  have G9 := Aside0.mk (Nat.lt_of_lt_of_le S8.out hge)
  have B9 := Aside0.mk (below_trans B8.out hb)
  have C9 := Aside0.mk (blk_below C8.out hb)
  have S9 := Aside0.mk (Nat.lt_of_lt_of_le S8.out hb.size)
  replace D1 := Aside0.mk (blk_below D1.out hb)
  replace D2 := Aside0.mk (blk_below D2.out hb)
  replace D3 := Aside0.mk (blk_below D3.out hb)
  replace D4 := Aside0.mk (blk_below D4.out hb)
  replace D5 := Aside0.mk (blk_below D5.out hb)
  replace D6 := Aside0.mk (blk_below D6.out hb)
  replace D7 := Aside0.mk (blk_below D7.out hb)
  replace D8 := Aside0.mk (blk_below D8.out hb)
  clear hb hge hc B8 C8 S8
  have H1 : (#[.func (.func 44) #[] #[], .func (.func 55) #[] #[.pointer (some ⟨b1, 0, none⟩)], .func (.func 55) #[] #[.pointer (some ⟨b2, 0, none⟩)], .func (.func 46) #[] #[], .func (.func 47) #[] #[], .func (.func 48) #[] #[], .func (.func 49) #[] #[], .func (.func 55) #[] #[.pointer (some ⟨b3, 0, none⟩)], .func (.func 55) #[] #[.pointer (some ⟨b4, 0, none⟩)], .func (.func 50) #[] #[], .func (.func 55) #[] #[.pointer (some ⟨b5, 0, none⟩)], .func (.func 51) #[] #[], .func (.func 52) #[] #[], .func (.func 55) #[] #[.pointer (some ⟨b6, 0, none⟩)], .func (.func 55) #[] #[.pointer (some ⟨b7, 0, none⟩)], .func (.func 53) #[] #[], .func (.func 55) #[] #[.pointer (some ⟨b8, 0, none⟩)], .func (.func 55) #[] #[.pointer (some ⟨b9, 0, none⟩)]] : Array Value).all (·.oneCell') = true := by simp [Value.oneCell']
  go_wp2_with (refine wpList_store_row rfl 86 _ _ rfl w.heap.size #[.func (.func 44) #[] #[], .func (.func 55) #[] #[.pointer (some ⟨b1, 0, none⟩)], .func (.func 55) #[] #[.pointer (some ⟨b2, 0, none⟩)], .func (.func 46) #[] #[], .func (.func 47) #[] #[], .func (.func 48) #[] #[], .func (.func 49) #[] #[], .func (.func 55) #[] #[.pointer (some ⟨b3, 0, none⟩)], .func (.func 55) #[] #[.pointer (some ⟨b4, 0, none⟩)], .func (.func 50) #[] #[], .func (.func 55) #[] #[.pointer (some ⟨b5, 0, none⟩)], .func (.func 51) #[] #[], .func (.func 52) #[] #[], .func (.func 55) #[] #[.pointer (some ⟨b6, 0, none⟩)], .func (.func 55) #[] #[.pointer (some ⟨b7, 0, none⟩)], .func (.func 53) #[] #[], .func (.func 55) #[] #[.pointer (some ⟨b8, 0, none⟩)], .func (.func 55) #[] #[.pointer (some ⟨b9, 0, none⟩)]] rfl rfl 86 _ C9.out (by kernel_rfl) rfl H1 ?_)
  refine bodyPost_ret (results_cell_row rfl _ _ w.heap.size 86 #[.func (.func 44) #[] #[], .func (.func 55) #[] #[.pointer (some ⟨b1, 0, none⟩)], .func (.func 55) #[] #[.pointer (some ⟨b2, 0, none⟩)], .func (.func 46) #[] #[], .func (.func 47) #[] #[], .func (.func 48) #[] #[], .func (.func 49) #[] #[], .func (.func 55) #[] #[.pointer (some ⟨b3, 0, none⟩)], .func (.func 55) #[] #[.pointer (some ⟨b4, 0, none⟩)], .func (.func 50) #[] #[], .func (.func 55) #[] #[.pointer (some ⟨b5, 0, none⟩)], .func (.func 51) #[] #[], .func (.func 52) #[] #[], .func (.func 55) #[] #[.pointer (some ⟨b6, 0, none⟩)], .func (.func 55) #[] #[.pointer (some ⟨b7, 0, none⟩)], .func (.func 53) #[] #[], .func (.func 55) #[] #[.pointer (some ⟨b8, 0, none⟩)], .func (.func 55) #[] #[.pointer (some ⟨b9, 0, none⟩)]] (0, 0) _ rfl (setRow_heap _ _ _ _ _ _ C9.out) Try.underlying86 rfl (by kernel_rfl)) rfl ⟨_, b1, b2, b3, b4, b5, b6, b7, b8, b9, rfl, ⟨fun _ => by kernel_rfl, fun _ => by kernel_rfl, fun _ => by kernel_rfl, fun _ => by kernel_rfl, fun _ => by kernel_rfl, fun _ => by kernel_rfl⟩, below_setRow B9.out (Nat.le_refl _) _, blk_setRow D1.out (Nat.ne_of_gt G1.out) _, blk_setRow D2.out (Nat.ne_of_gt G2.out) _, blk_setRow D3.out (Nat.ne_of_gt G3.out) _, blk_setRow D4.out (Nat.ne_of_gt G4.out) _, blk_setRow D5.out (Nat.ne_of_gt G5.out) _, blk_setRow D6.out (Nat.ne_of_gt G6.out) _, blk_setRow D7.out (Nat.ne_of_gt G7.out) _, blk_setRow D8.out (Nat.ne_of_gt G8.out) _, blk_setRow D9.out (Nat.ne_of_gt G9.out) _⟩

end Go.Proofs.Ytphonmldcbgklaa.P
