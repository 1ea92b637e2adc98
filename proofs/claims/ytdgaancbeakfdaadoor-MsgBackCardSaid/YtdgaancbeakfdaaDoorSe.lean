/- Same tells whether two messages are one. -/
import Derived.Test.YtdgaancbeakfdaaDoorSa
import Derived.Test.YtdgaancbeakfdaaDoorVth
namespace Go.Proofs.YtdgaancbeakfdaaDoor.Rt
set_option linter.unusedVariables false
set_option linter.unusedSimpArgs false
open Go.RowKit Go.Proofs.YtdgaancbeakfdaaDoorW.PrintWords Go.Proofs.YtdgaancbeakfdaaDoorW.PrintLast Go.Proofs.YtdgaancbeakfdaaDoor.Mo Go.Proofs.YtdgaancbeakfdaaDoor.Q
theorem bind_ext {x y : S42} (h0 : x.f0 = y.f0) (h1 : x.f1 = y.f1) (h2 : x.f2 = y.f2) : x = y := by
  cases x; cases y; simp only at h0 h1 h2; subst h0; subst h1; subst h2; rfl
theorem rd_at (l : List S42) (i : Nat) (h : i < l.length) : rd_T42 l (i : Int) = l[i] := by
  unfold rd_T42
  rw [Int.toNat_natCast, List.getD_eq_getElem?_getD, List.getElem?_eq_getElem h]; rfl
theorem same_lm (l m : List S42) (hlm : l.length = m.length) (hl : l.length ≤ 9223372036854775806) : ∀ (d i k : Nat), i + d = l.length → d + 2 ≤ k → ∃ b : Bool, billetlaw08_Same.l0 k l m (i : Int) = some b ∧ (b = true ↔ l.drop i = m.drop i)
  | 0, i, k, h1, h2 => by
    obtain ⟨k, rfl⟩ : ∃ m, k = m + 1 := ⟨k - 1, by omega⟩
    refine ⟨true, ?_, ?_⟩
    · rw [billetlaw08_Same.l0, if_neg (by omega)]
    · rw [List.drop_of_length_le (by omega), List.drop_of_length_le (by omega)]; simp
  | d + 1, i, k, h1, h2 => by
    obtain ⟨k, rfl⟩ : ∃ m, k = m + 1 := ⟨k - 1, by omega⟩
    obtain ⟨b, hb, hiff⟩ := same_lm l m hlm hl d (i + 1) k (by omega) (by omega)
    rw [billetlaw08_Same.l0, if_pos (by omega), if_pos (by omega), if_pos (by omega), wrapS i (by omega), hb, rd_at l i (by omega), rd_at m i (by omega)]
    rw [List.drop_eq_getElem_cons (show i < l.length by omega), List.drop_eq_getElem_cons (show i < m.length by omega)]
    by_cases he : l[i]'(by omega) = m[i]'(by omega)
    · refine ⟨b, ?_, ?_⟩
      · rw [he]; simp
      · rw [he, List.cons_inj_right]; exact hiff
    · refine ⟨false, ?_, ?_⟩
      · rw [if_pos]
        by_cases e0 : (l[i]'(by omega)).f0 = (m[i]'(by omega)).f0
        · by_cases e1 : (l[i]'(by omega)).f1 = (m[i]'(by omega)).f1
          · have e2 : (l[i]'(by omega)).f2 ≠ (m[i]'(by omega)).f2 := fun e => he (bind_ext e0 e1 e)
            simp [e0, e1, e2]
          · have := mt (Vth.toList_iff _ _).1 e1
            simp [this]
        · have := mt (Vth.toList_iff _ _).1 e0
          simp [this]
      · constructor
        · intro h; cases h
        · intro h; injection h with h _; exact absurd h he
theorem same_any (l m : List S42) (hl : l.length ≤ 9223372036854775806) : ∃ b : Bool, billetlaw08_Same.f (l.length + 2) l m = some b ∧ (b = true ↔ l = m) := by
  unfold billetlaw08_Same.f
  by_cases h : l.length = m.length
  · rw [if_pos (by omega)]
    have := same_lm l m h hl l.length 0 (l.length + 2) (by omega) (by omega)
    simpa using this
  · rw [if_neg (by omega)]
    exact ⟨false, rfl, by simp; intro e; exact h (by rw [e])⟩
theorem msame_any (a0 a1 a2 a3 a4 a5 : Int) (l : List S42) (b0 b1 b2 b3 b4 b5 : Int) (m : List S42) (hl : l.length ≤ 9223372036854775806) : ∃ b : Bool, billetlaw16_Same.f (l.length + 2) a0 a1 a2 a3 a4 a5 l b0 b1 b2 b3 b4 b5 m = some b ∧ (b = true ↔ (a0 = b0 ∧ a1 = b1 ∧ a2 = b2 ∧ a3 = b3 ∧ a4 = b4 ∧ a5 = b5 ∧ l = m)) := by
  obtain ⟨b, hb, hiff⟩ := same_any l m hl
  unfold billetlaw16_Same.f
  rw [hb, Option.bind_some]
  by_cases h0 : a0 = b0
  · by_cases h1 : a1 = b1
    · by_cases h2 : a2 = b2
      · by_cases h3 : a3 = b3
        · by_cases h4 : a4 = b4
          · by_cases h5 : a5 = b5
            · rw [if_pos h0, if_pos h1, if_pos h2, if_pos h3, if_pos h4, if_pos h5]
              exact ⟨b, rfl, by rw [hiff]; simp [h0, h1, h2, h3, h4, h5]⟩
            · rw [if_pos h0, if_pos h1, if_pos h2, if_pos h3, if_pos h4, if_neg h5]; exact ⟨false, rfl, by simp [h5]⟩
          · rw [if_pos h0, if_pos h1, if_pos h2, if_pos h3, if_neg h4]; exact ⟨false, rfl, by simp [h4]⟩
        · rw [if_pos h0, if_pos h1, if_pos h2, if_neg h3]; exact ⟨false, rfl, by simp [h3]⟩
      · rw [if_pos h0, if_pos h1, if_neg h2]; exact ⟨false, rfl, by simp [h2]⟩
    · rw [if_pos h0, if_neg h1]; exact ⟨false, rfl, by simp [h1]⟩
  · rw [if_neg h0]; exact ⟨false, rfl, by simp [h0]⟩
end Go.Proofs.YtdgaancbeakfdaaDoor.Rt
