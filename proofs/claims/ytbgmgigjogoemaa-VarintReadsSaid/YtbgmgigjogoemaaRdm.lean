/- The program's reader and the document's one, side by side. -/
import Derived.Test.YtbgmgigjogoemaaRrd
import Derived.Test.YtbgmgigjogoemaaQx23
namespace Go.Proofs.Ytbgmgigjogoemaa.Rdm
set_option linter.unusedVariables false
set_option linter.unusedSimpArgs false
open Go.RowKit Go.Proofs.YtbgmgigjogoemaaW.PrintWords Go.Proofs.YtbgmgigjogoemaaW.PrintLast Go.Proofs.YtbgmgigjogoemaaW.PrintMore Go.Proofs.Ytbgmgigjogoemaa.Num Go.Proofs.Ytbgmgigjogoemaa.Vth Go.Proofs.Ytbgmgigjogoemaa.Giv Go.Proofs.Ytbgmgigjogoemaa.Q Go.Proofs.Ytbgmgigjogoemaa.Vrd Go.Proofs.Ytbgmgigjogoemaa.Rrd
/-- what is left of a text -/
def rest (s : ByteArray) (a : Nat) : ByteArray := s.extract a s.size
theorem rest_size (s : ByteArray) (a : Nat) (h : a ≤ s.size) : (rest s a).size = s.size - a := by unfold rest; rw [ByteArray.size_extract]; omega
theorem rest_bytes (s : ByteArray) (a : Nat) : bytesOf (rest s a) = (bytesOf s).drop a := by
  unfold rest bytesOf
  rw [ByteArray.data_extract, Array.toList_extract, List.extract_eq_take_drop, List.map_take, List.map_drop]
  exact List.take_of_length_le (by rw [List.length_drop, List.length_map, Array.length_toList]; exact Nat.le_refl _)
theorem rest_rest (s : ByteArray) (a c : Nat) (h : a + c ≤ s.size) : (rest s a).extract c (rest s a).size = rest s (a + c) := by
  apply bytes_inj
  have e := rest_bytes (rest s a) c
  unfold rest at e ⊢
  rw [e]
  have e1 := rest_bytes s a
  have e2 := rest_bytes s (a + c)
  unfold rest at e1 e2
  rw [e1, e2, List.drop_drop]
theorem rest_zero (s : ByteArray) : rest s 0 = s := by
  apply bytes_inj; rw [rest_bytes, List.drop_zero]
theorem both_num (s : ByteArray) (hs : s.size ≤ 4611686018427387904) (a : Nat) (ha : a ≤ s.size) (bad : Bool) (k : Nat) (hk : s.size + 42 ≤ k) :
    ∃ v : Int, ∃ a' : Nat, ∃ bad' : Bool, varint_Reader_Num.f k s a bad = some (v, s, (a' : Int), bad') ∧ billetref01_Reader_Num.f k (rest s a) bad = some (v, rest s a', bad') ∧ a' ≤ s.size := by
  cases bad with
  | true => exact ⟨0, a, true, Num_bad s a k (by omega), RNum_bad _ k, ha⟩
  | false =>
    have h1 := Num_good s hs a ha k (by omega)
    have hr := rest_size s a ha
    have h2 := RNum_good (rest s a) (by omega) k (by omega)
    rw [rest_bytes] at h2
    cases hd : dec 0 0 ((bytesOf s).drop a) with
    | none => rw [hd] at h1 h2; exact ⟨0, a, true, h1, h2, ha⟩
    | some p =>
      obtain ⟨z, c⟩ := p
      have hc := dec_le _ _ _ _ _ hd
      rw [List.length_drop, bytesOf_length] at hc
      rw [hd] at h1 h2
      simp only [out, rout] at h1 h2
      rw [rest_rest s a c (by omega)] at h2
      exact ⟨unzig z, a + c, false, h1, h2, by omega⟩
theorem both_text (s : ByteArray) (hs : s.size ≤ 4611686018427387904) (a : Nat) (ha : a ≤ s.size) (bad : Bool) (most : Int) (k : Nat) (hk : s.size + 42 ≤ k) :
    ∃ v : ByteArray, ∃ a' : Nat, ∃ bad' : Bool, varint_Reader_Text.f k s a bad most = some (v, s, (a' : Int), bad') ∧ billetref01_Reader_Text.f k (rest s a) bad most = some (v, rest s a', bad') ∧ a' ≤ s.size := by
  cases bad with
  | true =>
    refine ⟨⟨#[]⟩, a, true, Text_bad s a most k (by omega), ?_, ha⟩
    unfold billetref01_Reader_Text.f
    rw [RNum_bad, Option.bind_some]
    simp only [if_true]
  | false =>
    have h1 := Text_good s hs a ha most k (by omega)
    have hr := rest_size s a ha
    have h2 := RNum_good (rest s a) (by omega) k (by omega)
    rw [rest_bytes] at h2
    unfold billetref01_Reader_Text.f
    rw [h2, h1]
    cases hd : dec 0 0 ((bytesOf s).drop a) with
    | none =>
      refine ⟨⟨#[]⟩, a, true, rfl, ?_, ha⟩
      rw [show rout (rest s a) none = (0, rest s a, true) from rfl, Option.bind_some]
      simp only [if_true]
    | some p =>
      obtain ⟨z, c⟩ := p
      have hc := dec_le _ _ _ _ _ hd
      rw [List.length_drop, bytesOf_length] at hc
      rw [show rout (rest s a) (some (z, c)) = (unzig z, rest s (a + c), false) by simp only [rout]; rw [rest_rest s a c (by omega)], Option.bind_some]
      dsimp only [tout]
      have hz := rest_size s (a + c) (by omega)
      rw [if_neg (show ¬ (false = true) by simp), hz]
      by_cases g1 : unzig z < 0
      · rw [if_pos g1, if_pos (.inl g1)]; exact ⟨_, a + c, true, rfl, rfl, by omega⟩
      · rw [if_neg g1]
        by_cases g2 : unzig z > most
        · rw [if_pos g2, if_pos (.inr (.inl g2))]; exact ⟨_, a + c, true, rfl, rfl, by omega⟩
        · rw [if_neg g2]
          by_cases g3 : unzig z > (s.size : Int) - ((a + c : Nat) : Int)
          · rw [if_pos (show unzig z < 0 ∨ unzig z > most ∨ unzig z > (s.size : Int) - ((a + c : Nat) : Int) from .inr (.inr g3)), if_pos (by omega)]; exact ⟨_, a + c, true, rfl, rfl, by omega⟩
          · obtain ⟨m, hm⟩ := Int.eq_ofNat_of_zero_le (show 0 ≤ unzig z by omega)
            rw [hm] at g1 g2 g3 ⊢
            rw [if_neg (show ¬ ((m : Int) < 0 ∨ (m : Int) > most ∨ (m : Int) > (s.size : Int) - ((a + c : Nat) : Int)) by omega), if_neg (by omega), if_pos (by omega), if_pos (by omega), Int.toNat_natCast]
            refine ⟨_, a + c + m, false, rfl, ?_, by omega⟩
            have e1 : (rest s (a + c)).extract 0 m = s.extract (a + c) (a + c + m) := by
              apply ByteArray.ext
              unfold rest
              rw [ByteArray.data_extract, ByteArray.data_extract, ByteArray.data_extract]
              apply Array.toList_inj.1
              rw [Array.toList_extract, Array.toList_extract, Array.toList_extract, List.extract_eq_take_drop, List.extract_eq_take_drop, List.extract_eq_take_drop, List.drop_zero, List.take_take]
              congr 1; omega
            have e2 := rest_rest s (a + c) m (by omega)
            rw [hz] at e2
            rw [e1, e2]
end Go.Proofs.Ytbgmgigjogoemaa.Rdm
