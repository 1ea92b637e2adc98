/- Small numbers take few bytes: for every int, without conditions. -/
import Derived.Test.YtbgmgigjogoemaaVaw
import Derived.Test.YtbgmgigjogoemaaQx14
namespace Go.Proofs.Ytbgmgigjogoemaa.Pure
open Go.RowKit Go.Proofs.YtbgmgigjogoemaaW.PrintWords Go.Proofs.YtbgmgigjogoemaaW.PrintLast Go.Proofs.YtbgmgigjogoemaaW.PrintMore Go.Proofs.Ytbgmgigjogoemaa.Num Go.Proofs.Ytbgmgigjogoemaa.Vth Go.Proofs.Ytbgmgigjogoemaa.Giv Go.Proofs.Ytbgmgigjogoemaa.Q Go.Proofs.Ytbgmgigjogoemaa.Vrd Go.Proofs.Ytbgmgigjogoemaa.Vaw
theorem short_l0 (x : Int) (h0 : -9223372036854775808 ≤ x) (h1 : x ≤ 9223372036854775807) (j : Nat) : ∀ (k : Nat) (m cnt : Int), j + 2 < k → 0 ≤ m → m < ((2 ^ (7 * j + 1) : Nat) : Int) → j ≤ 8 → 0 ≤ cnt → cnt + j ≤ 20 →
    billetlaw01_VarintShort.l0 k x true m cnt = some (((num x).size : Int) == cnt + (if m = 0 then 0 else ((digs j m).length : Int))) := by
  induction j with
  | zero =>
    intro k m cnt hk h2 h3 _ hc hc2
    obtain ⟨k, rfl⟩ : ∃ m, k = m + 2 := ⟨k - 2, by omega⟩
    have h4 : m < 2 := by simpa using h3
    simp only [billetlaw01_VarintShort.l0]
    by_cases hm : m > 0
    · rw [if_pos hm, Int.tdiv_eq_ediv_of_nonneg h2, wrap_in (m / 128) (by omega) (by omega), wrap_in (cnt + 1) (by omega) (by omega), if_neg (by omega), if_pos trivial, Numf x h0 h1, Option.bind_some, if_neg (by omega)]
      simp [digs]
    · rw [if_neg hm, if_pos trivial, Numf x h0 h1, Option.bind_some, if_pos (by omega)]
      simp
  | succ j ih =>
    intro k m cnt hk h2 h3 hj hc hc2
    obtain ⟨k, rfl⟩ : ∃ m, k = m + 1 := ⟨k - 1, by omega⟩
    simp only [billetlaw01_VarintShort.l0]
    have hp : 2 ^ (7 * (j + 1) + 1) ≤ 2 ^ 57 := Nat.pow_le_pow_right (by omega) (by omega)
    have e64 : (2 : Nat) ^ 57 = 144115188075855872 := by decide
    by_cases hm : m > 0
    · rw [if_pos hm, Int.tdiv_eq_ediv_of_nonneg h2, wrap_in (m / 128) (by omega) (by omega), wrap_in (cnt + 1) (by omega) (by omega), ih k (m / 128) (cnt + 1) (by omega) (by omega) ?_ (by omega) (by omega) (by omega), if_neg (show ¬ m = 0 by omega), digs]
      · by_cases h128 : 128 ≤ m
        · rw [if_neg (by omega), if_pos h128, List.length_cons]
          congr 2; simp only [Int.natCast_add]; omega
        · rw [if_pos (by omega), if_neg h128, List.length_singleton]
          congr 2; simp
      · rw [show 7 * (j + 1) + 1 = (7 * j + 1) + 7 by omega, Nat.pow_add] at h3
        omega
    · rw [if_neg hm, if_pos trivial, Numf x h0 h1, Option.bind_some, if_pos (by omega)]
      simp
theorem VarintShort : billetlaw01_VarintShort.Pure := by
  intro x hx
  have hx := int64_bd hx
  refine ⟨60, ?_⟩
  have hz := zig_bd x hx.1 hx.2
  have key : ∀ m : Int, 0 ≤ m → m ≤ 9223372036854775807 → (zig x = 2 * m ∨ zig x = 2 * m + 1) → billetlaw01_VarintShort.j0 60 x true m = some true := by
    intro m h0 h1 h2
    simp only [billetlaw01_VarintShort.j0]
    have hb : m / 64 < ((2 ^ (7 * 8 + 1) : Nat) : Int) := by
      have : ((2 ^ (7 * 8 + 1) : Nat) : Int) = 144115188075855872 := by decide
      rw [this]; omega
    rw [Int.tdiv_eq_ediv_of_nonneg h0, wrap_in (m / 64) (by omega) (by omega), short_l0 x hx.1 hx.2 8 59 (m / 64) 1 (by omega) (by omega) hb (by omega) (by omega) (by omega)]
    rw [num_size, digs]
    have e : zig x / 128 = m / 64 := by omega
    by_cases h : 128 ≤ zig x
    · rw [if_pos h, e, if_neg (by omega), List.length_cons]
      simp; omega
    · rw [if_neg h, if_pos (by omega)]
      simp
  unfold billetlaw01_VarintShort.f
  rw [awake_yes 60 (by omega), Option.bind_some]
  by_cases h : x < 0
  · rw [if_pos h, wrap_in (x + 1) (by omega) (by omega), wrap_in (-(x + 1)) (by omega) (by omega)]
    exact key _ (by omega) (by omega) (by unfold zig; rw [if_neg (by omega)]; omega)
  · rw [if_neg h]
    exact key _ (by omega) (by omega) (by unfold zig; rw [if_pos (by omega)]; omega)
end Go.Proofs.Ytbgmgigjogoemaa.Pure
