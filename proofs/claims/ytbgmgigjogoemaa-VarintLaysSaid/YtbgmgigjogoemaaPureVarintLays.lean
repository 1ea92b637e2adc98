/- Numbers and texts are laid as the document lays them: for every int and every text, without conditions. -/
import Derived.Test.YtbgmgigjogoemaaVaw
import Derived.Test.YtbgmgigjogoemaaQx12
namespace Go.Proofs.Ytbgmgigjogoemaa.Pure
open Go.RowKit Go.Proofs.YtbgmgigjogoemaaW.PrintWords Go.Proofs.YtbgmgigjogoemaaW.PrintLast Go.Proofs.YtbgmgigjogoemaaW.PrintMore Go.Proofs.Ytbgmgigjogoemaa.Num Go.Proofs.Ytbgmgigjogoemaa.Vth Go.Proofs.Ytbgmgigjogoemaa.Giv Go.Proofs.Ytbgmgigjogoemaa.Q Go.Proofs.Ytbgmgigjogoemaa.Vrd Go.Proofs.Ytbgmgigjogoemaa.Vaw
theorem ref_l0 (j : Nat) : ∀ (k : Nat) (low rest : Int) (o : List Int), j + 1 < k → 0 ≤ low → low < 128 → 0 ≤ rest → low + 128 * rest < ((2 ^ (7 * j + 1) : Nat) : Int) → j ≤ 9 → o.length + j ≤ 20 →
    billetref01_Num.l0 k low rest o = some (strOfNums (o ++ digs j (low + 128 * rest))) := by
  induction j with
  | zero =>
    intro k low rest o hk h0 h1 h2 h3 _ ho
    obtain ⟨k, rfl⟩ : ∃ m, k = m + 1 := ⟨k - 1, by omega⟩
    have h4 : rest = 0 := by have : low + 128 * rest < 2 := by simpa using h3
                             omega
    subst h4
    simp only [billetref01_Num.l0]
    rw [if_neg (by omega), if_pos (by omega)]
    simp [digs]
  | succ j ih =>
    intro k low rest o hk h0 h1 h2 h3 hj ho
    obtain ⟨k, rfl⟩ : ∃ m, k = m + 1 := ⟨k - 1, by omega⟩
    simp only [billetref01_Num.l0]
    have hp : 2 ^ (7 * (j + 1) + 1) ≤ 2 ^ 64 := Nat.pow_le_pow_right (by omega) (by omega)
    have e64 : (2 : Nat) ^ 64 = 18446744073709551616 := by decide
    by_cases hr : rest > 0
    · rw [if_pos hr, if_pos (by omega), Int.tmod_eq_emod_of_nonneg h2, Int.tdiv_eq_ediv_of_nonneg h2, wrap_in (rest / 128) (by omega) (by omega), wrap_in (low + 128) (by omega) (by omega),
        ih k _ _ _ (by omega) (by omega) (by omega) (by omega) ?_ (by omega) (by simp; omega)]
      · rw [digs, if_pos (by omega), List.append_assoc]
        congr 3
        · simp only [List.singleton_append]
          congr 1
          · omega
          · congr 1; omega
      · rw [show 7 * (j + 1) + 1 = (7 * j + 1) + 7 by omega, Nat.pow_add] at h3
        omega
    · have h4 : rest = 0 := by omega
      subst h4
      rw [if_neg hr, if_pos (by omega), digs, if_neg (by omega)]
      simp
theorem ref_num (k : Nat) (hk : 40 ≤ k) (x : Int) (h0 : -9223372036854775808 ≤ x) (h1 : x ≤ 9223372036854775807) : billetref01_Num.f k x = some (num x) := by
  unfold billetref01_Num.f num
  obtain ⟨k, rfl⟩ : ∃ m, k = m + 1 := ⟨k - 1, by omega⟩
  have hz := zig_bd x h0 h1
  by_cases h : x ≥ 0
  · rw [if_pos h]
    simp only [billetref01_Num.j0]
    rw [Int.tmod_eq_emod_of_nonneg h, Int.tdiv_eq_ediv_of_nonneg h, wrap_in (x % 64 * 2) (by omega) (by omega), wrap_in (x / 64) (by omega) (by omega),
      ref_l0 9 k _ _ [] (by omega) (by omega) (by omega) (by omega) (by have : ((2 ^ (7 * 9 + 1) : Nat) : Int) = 18446744073709551616 := by decide
                                                                        rw [this]; omega) (by omega) (by simp)]
    rw [show x % 64 * 2 + 128 * (x / 64) = zig x by unfold zig; rw [if_pos h]; omega]; rfl
  · rw [if_neg h]
    simp only [billetref01_Num.j0]
    rw [wrap_in (x + 1) (by omega) (by omega), wrap_in (-(x + 1)) (by omega) (by omega), Int.tmod_eq_emod_of_nonneg (by omega), Int.tdiv_eq_ediv_of_nonneg (by omega), wrap_in (-(x + 1) % 64 * 2) (by omega) (by omega),
      wrap_in (-(x + 1) % 64 * 2 + 1) (by omega) (by omega), wrap_in (-(x + 1) / 64) (by omega) (by omega),
      ref_l0 9 k _ _ [] (by omega) (by omega) (by omega) (by omega) (by have : ((2 ^ (7 * 9 + 1) : Nat) : Int) = 18446744073709551616 := by decide
                                                                        rw [this]; omega) (by omega) (by simp)]
    rw [show -(x + 1) % 64 * 2 + 1 + 128 * (-(x + 1) / 64) = zig x by unfold zig; rw [if_neg (by omega)]; omega]; rfl
theorem VarintLays : billetlaw01_VarintLays.Pure := by
  intro x s hx hs
  have hx := int64_bd hx
  refine ⟨40, ?_⟩
  unfold billetlaw01_VarintLays.f billetref01_Text.f
  have := num_size_bd s.size
  rw [awake_yes 40 (by omega), Option.bind_some, if_pos rfl, Numf x hx.1 hx.2, Option.bind_some, ref_num 40 (by omega) x hx.1 hx.2, Option.bind_some, if_pos rfl, Textf s (by omega), Option.bind_some,
    ref_num 40 (by omega) s.size (by omega) (by omega), Option.bind_some, if_pos (by omega), Option.bind_some]
  simp [text]
end Go.Proofs.Ytbgmgigjogoemaa.Pure
