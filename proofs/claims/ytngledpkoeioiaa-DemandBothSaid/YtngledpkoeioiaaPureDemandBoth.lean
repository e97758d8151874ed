/- Tasks must have as much done together as two parts of them; with all of their jobs mandatory no less. No condition. -/
import Derived.Test.YtngledpkoeioiaaQDemandBoth
import Derived.Test.YtngledpkoeioiaaLibDemandTest
import Derived.Test.YtngledpkoeioiaaLibA09
namespace Go.Proofs.Ytngledpkoeioiaa.Pure
open Go.RowKit Go.Proofs.Ytngledpkoeioiaa.P Go.Proofs.YtngledpkoeioiaaW.PrintWords Go.Proofs.YtngledpkoeioiaaW.PrintLast
set_option linter.unusedVariables false
set_option linter.unusedSimpArgs false
/-- A task, all of whose jobs are mandatory. -/
def fullF (x : Fix) : Fix := ⟨⟨x.f0.f0, x.f0.f1, x.f0.f2, x.f0.f4, x.f0.f4, x.f0.f5⟩, x.f1⟩
theorem ofF_full (x : Fix) {n : Int} (n0 : 0 ≤ n) (n1 : n ≤ 1099511627776) : ofF x n ≤ ofF (fullF x) n := by
  by_cases o : okF x
  · obtain ⟨a1, a2, a3, a4, a5, a6, a7⟩ := okF_nums o
    have o2 := o
    have b := dem_bound o n0
    obtain ⟨⟨c1, c2, c3, c4, c5, ⟨c6, c7, c8⟩, c9⟩, d1, d2⟩ := o2
    have oy : okF (fullF x) := ⟨⟨c1, c2, c3, c4, c5, ⟨by show 1 ≤ x.f0.f4; omega, Int.le_refl _, c8⟩, c9⟩, d1, d2⟩
    rw [ofF_ok o n0 n1, ofF_ok oy n0 n1]
    unfold dem
    exact Int.mul_le_mul_of_nonneg_left (up_mono (show 1 ≤ x.f0.f4 by omega) (Int.mul_le_mul_of_nonneg_left a6 b.2.2.1)) (by omega)
  · rw [ofF_no o]
    exact (ofF_bound _ n).1
theorem sumF_full {n : Int} (n0 : 0 ≤ n) (n1 : n ≤ 1099511627776) : ∀ (l : List Fix), sumF l n ≤ sumF (l.map fullF) n
  | [] => by simp [sumF]
  | x :: t => by
    have := sumF_full n0 n1 t
    have := ofF_full x n0 n1
    rw [List.map_cons, sumF_cons, sumF_cons]
    omega
theorem both_loop (l m : List Fix) (hl : l.length ≤ 10) (hm : m.length ≤ 10) {n : Int} (n0 : 0 ≤ n) (n1 : n ≤ 1099511627776) :
    ∀ (d i k : Nat), i + d = l.length → d + 100 ≤ k → fuseelaw09_DemandBoth.l0 k l m n (l ++ m) ((l.take i).map fullF ++ l.drop i) (i : Int) = some true := by
  intro d
  induction d with
  | zero =>
    intro i k hi hk
    obtain ⟨k, rfl⟩ : ∃ x, k = x + 1 := ⟨k - 1, by omega⟩
    rw [List.take_of_length_le (by omega), List.drop_of_length_le (by omega), List.append_nil]
    have a : ∀ q : List Fix, q.length ≤ 1000 → allF q n = sumF q n := fun q hq => if_pos hq
    have b1 := sumF_bound l n
    have b2 := sumF_bound m n
    rw [fuseelaw09_DemandBoth.l0, if_neg (by rw [List.length_map]; omega), all_eq _ n (by rw [List.length_append]; omega), all_eq l n (by omega), all_eq m n (by omega), Option.bind_some, Option.bind_some, Option.bind_some,
      a _ (by rw [List.length_append]; omega), a l (by omega), a m (by omega), sumF_append, w64 (by omega) (by omega), if_pos rfl, all_eq _ n (by rw [List.length_map]; omega), Option.bind_some, a _ (by rw [List.length_map]; omega), Option.bind_some]
    congr 1
    exact decide_eq_true (sumF_full n0 n1 l)
  | succ d ih =>
    intro i k hi hk
    obtain ⟨k, rfl⟩ : ∃ x, k = x + 1 := ⟨k - 1, by omega⟩
    have hlt : i < l.length := by omega
    have hlen : ((l.take i).map fullF ++ l.drop i).length = l.length := by simp; omega
    have hlt2 : i < ((l.take i).map fullF ++ l.drop i).length := by omega
    have hget : ((l.take i).map fullF ++ l.drop i)[i] = l[i] := by
      rw [List.getElem_append_right (by simp; omega)]
      simp
      congr 1
      omega
    have hset : ((l.take i).map fullF ++ l.drop i).set i (fullF l[i]) = (l.take (i + 1)).map fullF ++ l.drop (i + 1) := by
      rw [List.take_succ_eq_append_getElem hlt, List.map_append, List.set_append_right _ _ (by simp; omega), List.drop_eq_getElem_cons hlt,
        show i - ((l.take i).map fullF).length = 0 by simp; omega, List.set_cons_zero, List.append_assoc]
      rfl
    rw [fuseelaw09_DemandBoth.l0, if_pos (by omega), if_pos (by omega), rd_fix hlt2, hget, w64 (by omega) (by omega), Int.toNat_natCast]
    have := ih (i + 1) k (by omega) (by omega)
    rw [← hset] at this
    exact this
theorem DemandBoth : fuseelaw09_DemandBoth.Pure := by
  intro l m n _ hl _ _ hm _ hn
  refine ⟨2000, ?_⟩
  unfold fuseelaw09_DemandBoth.f
  rw [awake09 (by omega), Option.bind_some, if_pos rfl]
  by_cases c1 : (l.length : Int) > 10
  · rw [if_pos c1]
  rw [if_neg c1]
  by_cases c2 : (m.length : Int) > 10
  · rw [if_pos c2]
  rw [if_neg c2]
  by_cases c3 : n < 0
  · rw [if_pos c3]
  rw [if_neg c3]
  by_cases c4 : n > 1099511627776
  · rw [if_pos c4]
  rw [if_neg c4, if_pos (by simp; omega), Option.bind_some, if_pos (by simp; omega)]
  have := both_loop l m (by omega) (by omega) (n := n) (by omega) (by omega) l.length 0 2000 (by omega) (by omega)
  simpa using this
end Go.Proofs.Ytngledpkoeioiaa.Pure
