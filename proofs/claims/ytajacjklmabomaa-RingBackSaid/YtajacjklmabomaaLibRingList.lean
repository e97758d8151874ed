/- The list that a ring tells of is its outcomes, the first one first. No condition but each lemma's own. -/
import Derived.Test.YtajacjklmabomaaPx7
import Derived.Test.YtajacjklmabomaaLibRing
namespace Go.Proofs.Ytajacjklmabomaa.Pure
open Go.RowKit Go.Proofs.Ytajacjklmabomaa.P Go.Proofs.YtajacjklmabomaaW.PrintWords Go.Proofs.YtajacjklmabomaaW.PrintLast Go.Proofs.YtajacjklmabomaaW.PrintMore
set_option linter.unusedVariables false
set_option linter.unusedSimpArgs false
theorem bit_eq {t : List Bool} (h : t.length ≤ 60) {i : Nat} (hi : i < t.length) : ((Go.bits .and .u64 (shr .u64 ((V t : Nat) : Int) (i : Int)) 1) == 1) = t[i] := by
  have hv := V_lt60 h
  have hd : V (t.drop i) < 1152921504606846976 := V_lt60 (by rw [List.length_drop]; omega)
  have e : V (t.drop i) &&& 1 = t[i].toNat := by
    rw [show (1 : Nat) = 2 ^ 1 - 1 from rfl, land_mask, List.drop_eq_getElem_cons hi, V]
    have := toNat_le t[i]
    rw [show (2 : Nat) ^ 1 = 2 from rfl]; omega
  rw [shr_nat _ _ (by omega), V_drop, show (1 : Int) = ((1 : Nat) : Int) from rfl, bits_and_u64_nat _ _ (by omega) (by decide), e]
  cases t[i] <;> rfl
theorem list_loop {t : List Bool} (h : t.length ≤ 60) : ∀ (i f : Nat) (acc : List Bool), i ≤ t.length → acc.length + i ≤ 100 → i < f →
    ring_List.l0 f acc ((i : Int) - 1) (t.length : Int) ((V t : Nat) : Int) = some (acc ++ (t.take i).reverse)
  | 0, f, acc, hi, ha, hf => by
    obtain ⟨f, rfl⟩ : ∃ x, f = x + 1 := ⟨f - 1, by omega⟩
    rw [ring_List.l0, if_neg (by omega)]; simp
  | i + 1, f, acc, hi, ha, hf => by
    obtain ⟨f, rfl⟩ : ∃ x, f = x + 1 := ⟨f - 1, by omega⟩
    rw [show (((i + 1 : Nat) : Int) - 1) = (i : Int) by omega, ring_List.l0, if_pos (by omega), if_pos (by omega), if_pos (by omega), bit_eq h (by omega), w64 (by omega) (by omega),
      list_loop h i f _ (by omega) (by simp; omega) (by omega), List.take_succ_eq_append_getElem (by omega : i < t.length), List.reverse_append, List.append_assoc]
    rfl
theorem list_eq {N B : Int} {t : List Bool} (h : View N B t) {f : Nat} (hf : 61 ≤ f) : ring_List.f f N B = some t.reverse := by
  obtain ⟨h, hl⟩ := h
  unfold ring_List.f
  rw [h]
  simp only [Option.bind_some]
  rw [w64 (by omega) (by omega), list_loop hl t.length f [] (Nat.le_refl _) (by simp; omega) (by omega), List.take_length]
  rfl
end Go.Proofs.Ytajacjklmabomaa.Pure
