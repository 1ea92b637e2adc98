/- Equal messages are the same. -/
import Derived.Test.YtpgifeoigconbaaDoorRt
namespace Go.Proofs.YtpgifeoigconbaaDoor.Rt
set_option linter.unusedVariables false
set_option linter.unusedSimpArgs false
open Go.RowKit Go.Proofs.YtpgifeoigconbaaDoorW.PrintWords Go.Proofs.YtpgifeoigconbaaDoorW.PrintLast Go.Proofs.YtpgifeoigconbaaDoor.Mo Go.Proofs.YtpgifeoigconbaaDoor.Q
theorem same_l (l : List S35) (hl : l.length ≤ 9223372036854775806) : ∀ (d i k : Nat), i + d = l.length → d + 2 ≤ k → billetlaw08_Same.l0 k l l (i : Int) = some true
  | 0, i, k, h1, h2 => by
    obtain ⟨k, rfl⟩ : ∃ m, k = m + 1 := ⟨k - 1, by omega⟩
    rw [billetlaw08_Same.l0, if_neg (by omega)]
  | d + 1, i, k, h1, h2 => by
    obtain ⟨k, rfl⟩ : ∃ m, k = m + 1 := ⟨k - 1, by omega⟩
    have ih := same_l l hl d (i + 1) k (by omega) (by omega)
    rw [billetlaw08_Same.l0, if_pos (by omega), if_pos (by omega), if_pos (by omega), wrapS i (by omega), ih]
    simp
theorem same_refl (l : List S35) (hl : l.length ≤ 9223372036854775806) : billetlaw08_Same.f (l.length + 2) l l = some true := by
  unfold billetlaw08_Same.f
  rw [if_pos rfl]
  have := same_l l hl l.length 0 (l.length + 2) (by omega) (by omega)
  rw [show ((0 : Nat) : Int) = 0 from rfl] at this
  exact this
theorem msame_refl (a0 a1 a2 a3 a4 a5 : Int) (l : List S35) (hl : l.length ≤ 9223372036854775806) : billetlaw16_Same.f (l.length + 2) a0 a1 a2 a3 a4 a5 l a0 a1 a2 a3 a4 a5 l = some true := by
  unfold billetlaw16_Same.f
  rw [if_pos rfl, if_pos rfl, if_pos rfl, if_pos rfl, if_pos rfl, if_pos rfl, same_refl l hl]; rfl
end Go.Proofs.YtpgifeoigconbaaDoor.Rt
