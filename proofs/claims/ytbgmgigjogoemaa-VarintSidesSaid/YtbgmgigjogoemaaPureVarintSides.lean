/- A number below 0 takes as many bytes as the one that stands as far above: for every int, without conditions. -/
import Derived.Test.YtbgmgigjogoemaaVaw
import Derived.Test.YtbgmgigjogoemaaQx16
namespace Go.Proofs.Ytbgmgigjogoemaa.Pure
open Go.RowKit Go.Proofs.YtbgmgigjogoemaaW.PrintWords Go.Proofs.YtbgmgigjogoemaaW.PrintLast Go.Proofs.YtbgmgigjogoemaaW.PrintMore Go.Proofs.Ytbgmgigjogoemaa.Num Go.Proofs.Ytbgmgigjogoemaa.Vth Go.Proofs.Ytbgmgigjogoemaa.Giv Go.Proofs.Ytbgmgigjogoemaa.Q Go.Proofs.Ytbgmgigjogoemaa.Vrd Go.Proofs.Ytbgmgigjogoemaa.Vaw
theorem digs_pair (z : Int) (h0 : 0 ≤ z) (h1 : z < 18446744073709551616) (h2 : z % 2 = 0) : ∃ b l, digs 9 z = b :: l ∧ digs 9 (z + 1) = (b + 1) :: l ∧ 0 ≤ b ∧ b ≤ 254 := by
  by_cases h : 128 ≤ z
  · refine ⟨z % 128 + 128, digs 8 (z / 128), ?_, ?_, by omega, by omega⟩
    · rw [digs, if_pos h]
    · rw [digs, if_pos (by omega), show (z + 1) / 128 = z / 128 by omega]; congr 1; omega
  · refine ⟨z, [], ?_, ?_, by omega, by omega⟩
    · rw [digs, if_neg h]; congr 1; omega
    · rw [digs, if_neg (by omega)]; congr 1; omega
theorem bytes_extract (s : ByteArray) (i j : Nat) : bytesOf (s.extract i j) = ((bytesOf s).drop i).take (j - i) := by
  unfold bytesOf
  rw [ByteArray.data_extract, Array.toList_extract, List.extract_eq_take_drop, List.map_take, List.map_drop]
theorem sides (n : Int) (h0 : 0 ≤ n) (h1 : n ≤ 9223372036854775807) : (num n).size = (num (-(n + 1))).size ∧ 0 < (num n).size ∧ (bt (num n) 0 + 1) % 256 = bt (num (-(n + 1))) 0 ∧
    (num n).extract 1 (num n).size = (num (-(n + 1))).extract 1 (num (-(n + 1))).size := by
  have e1 : zig n = 2 * n := by unfold zig; rw [if_pos h0]
  have e2 : zig (-(n + 1)) = 2 * n + 1 := by unfold zig; rw [if_neg (by omega)]; omega
  obtain ⟨b, l, h2, h3, h4, h5⟩ := digs_pair (2 * n) (by omega) (by omega) (by omega)
  have b1 := num_bytes n (by omega) h1
  have b2 := num_bytes (-(n + 1)) (by omega) (by omega)
  rw [e1, h2] at b1
  rw [e2, h3] at b2
  have s1 : (num n).size = l.length + 1 := by rw [← bytesOf_length, b1]; rfl
  have s2 : (num (-(n + 1))).size = l.length + 1 := by rw [← bytesOf_length, b2]; rfl
  refine ⟨by omega, by omega, ?_, ?_⟩
  · rw [← rd_bytesOf, ← rd_bytesOf, b1, b2]
    simp [rd]; omega
  · apply bytes_inj
    rw [bytes_extract, bytes_extract, b1, b2, s1, s2]
    rfl
theorem wneg (n : Int) (h0 : 0 ≤ n) (h1 : n ≤ 9223372036854775807) : wrap64 (-(wrap64 (n + 1))) = -(n + 1) := by unfold wrap64; omega
theorem VarintSides : billetlaw01_VarintSides.Pure := by
  intro x hx
  have hx := int64_bd hx
  refine ⟨40, ?_⟩
  unfold billetlaw01_VarintSides.f
  rw [awake_yes 40 (by omega), Option.bind_some]
  by_cases h : x < 0
  · rw [if_pos h, wrap_in (x + 1) (by omega) (by omega), wrap_in (-(x + 1)) (by omega) (by omega), wneg (-(x + 1)) (by omega) (by omega)]
    obtain ⟨s1, s2, s3, s4⟩ := sides (-(x + 1)) (by omega) (by omega)
    rw [Numf (-(x + 1)) (by omega) (by omega), Option.bind_some, Numf (-(-(x + 1) + 1)) (by omega) (by omega), Option.bind_some, if_pos rfl, if_pos (by omega), if_pos (by omega), if_pos (by omega), if_pos (by omega), if_pos s3, if_pos (by omega), if_pos (by omega), s4]
    simp
  · rw [if_neg h, wneg x (by omega) (by omega)]
    obtain ⟨s1, s2, s3, s4⟩ := sides x (by omega) (by omega)
    rw [Numf x (by omega) (by omega), Option.bind_some, Numf (-(x + 1)) (by omega) (by omega), Option.bind_some, if_pos rfl, if_pos (by omega), if_pos (by omega), if_pos (by omega), if_pos (by omega), if_pos s3, if_pos (by omega), if_pos (by omega), s4]
    simp
end Go.Proofs.Ytbgmgigjogoemaa.Pure
