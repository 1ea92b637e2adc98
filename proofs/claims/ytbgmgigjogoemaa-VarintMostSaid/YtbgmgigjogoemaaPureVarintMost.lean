import Derived.Test.YtbgmgigjogoemaaVaw
import Derived.Test.YtbgmgigjogoemaaQz1
import Derived.Test.YtbgmgigjogoemaaQx17
namespace Go.Proofs.Ytbgmgigjogoemaa.Mostp
set_option linter.unusedVariables false
set_option linter.unusedSimpArgs false
open Go.RowKit Go.Proofs.YtbgmgigjogoemaaW.PrintWords Go.Proofs.YtbgmgigjogoemaaW.PrintLast Go.Proofs.YtbgmgigjogoemaaW.PrintMore Go.Proofs.Ytbgmgigjogoemaa.Num Go.Proofs.Ytbgmgigjogoemaa.Vth Go.Proofs.Ytbgmgigjogoemaa.Giv Go.Proofs.Ytbgmgigjogoemaa.Q Go.Proofs.Ytbgmgigjogoemaa.Vrd Go.Proofs.Ytbgmgigjogoemaa.Vaw
theorem pick_eq (a n : Int) (h1 : -9223372036854775808 ≤ a) (h2 : a ≤ 9223372036854775807) (hn : 0 < n) : ∃ m : Nat, billetlaw01_pick.f a n = some (m : Int) ∧ (m : Int) < n := by
  unfold billetlaw01_pick.f
  by_cases h : a < 0
  · rw [if_pos h, if_neg (by omega), wrap_in (a + 1) (by omega) (by omega), wrap_in _ (by omega) (by omega), Int.tmod_eq_emod_of_nonneg (by omega)]
    have := Int.emod_nonneg (-(a + 1)) (show n ≠ 0 by omega)
    have := Int.emod_lt_of_pos (-(a + 1)) hn
    exact ⟨(-(a + 1) % n).toNat, by congr 1; omega, by omega⟩
  · rw [if_neg h, if_neg (by omega), Int.tmod_eq_emod_of_nonneg (by omega)]
    have := Int.emod_nonneg a (show n ≠ 0 by omega)
    have := Int.emod_lt_of_pos a hn
    exact ⟨(a % n).toNat, by congr 1; omega, by omega⟩
/-- a text of which c bytes stand behind its length -/
theorem take_cut (s : ByteArray) (hs : s.size ≤ 140737488351232) (c : Nat) (hc : c ≤ s.size) (most : Int) (k : Nat) (hk : 40 ≤ k) :
    varint_Reader_Text.f k ((text s).extract 0 ((num s.size).size + c)) 0 false most = some (if (s.size : Int) > most ∨ c < s.size then (⟨#[]⟩, (text s).extract 0 ((num s.size).size + c), ((num s.size).size : Int), true) else (s, text s, ((text s).size : Int), false)) := by
  have hn := num_size_bd s.size
  have hz : (text s).size = (num s.size).size + s.size := by unfold text; rw [ByteArray.size_append]
  have he : ((text s).extract 0 ((num s.size).size + c)).size = (num s.size).size + c := by rw [ByteArray.size_extract]; omega
  have hd : dec 0 0 (bytesOf ((text s).extract 0 ((num s.size).size + c))) = some (zig s.size, (num s.size).size) := by
    have hb : bytesOf ((text s).extract 0 ((num s.size).size + c)) = (bytesOf (text s)).take ((num s.size).size + c) := by
      unfold bytesOf
      rw [ByteArray.data_extract, Array.toList_extract, List.extract_eq_take_drop, List.map_take, List.map_drop]
      simp
    rw [hb]
    unfold text
    rw [bytes_append, List.take_append, List.take_of_length_le (by rw [bytesOf_length]; omega)]
    exact dec_num _ _ (by omega) (by omega)
  have h := Text_good ((text s).extract 0 ((num s.size).size + c)) (by omega) 0 (by omega) most k hk
  rw [List.drop_zero, hd, show ((0 : Nat) : Int) = 0 from rfl] at h
  rw [h]
  simp only [tout, unzig_zig, Nat.zero_add, he]
  by_cases hb : (s.size : Int) > most ∨ c < s.size
  · rw [if_pos (by omega), if_pos hb]
  · have hcs : c = s.size := by omega
    rw [if_neg (by omega), if_neg hb]
    subst hcs
    have e1 : (text s).extract 0 ((num s.size).size + s.size) = text s := by
      rw [← hz]
      apply ByteArray.ext
      rw [ByteArray.data_extract]
      simp
    have e2 : (text s).extract (num s.size).size ((num s.size).size + s.size) = s := by
      have := extract_mid (num s.size) s ⟨#[]⟩
      rw [show num s.size ++ s ++ (⟨#[]⟩ : ByteArray) = text s by unfold text; apply ByteArray.ext; rw [ByteArray.data_append]; simp] at this
      exact this
    rw [e1, Int.toNat_natCast, e2, hz]
    congr 3
theorem VarintMost (s : ByteArray) (a b : Int) (hs : s.size ≤ 140737488351232) (h1 : -9223372036854775808 ≤ a) (h2 : a ≤ 9223372036854775807) (h3 : -9223372036854775808 ≤ b) (h4 : b ≤ 9223372036854775807) : billetlaw01_VarintMost.f 50 s a b = some true := by
  obtain ⟨m, hm, hm2⟩ := pick_eq a ((s.size : Int) + 1) h1 h2 (by omega)
  obtain ⟨c, hc, hc2⟩ := pick_eq b ((s.size : Int) + 1) h3 h4 (by omega)
  have hn := num_size_bd s.size
  have hz : (text s).size = (num s.size).size + s.size := by unfold text; rw [ByteArray.size_append]
  unfold billetlaw01_VarintMost.f
  rw [awake_yes 50 (by omega), Option.bind_some, Textf s (by omega), Option.bind_some, wrap_in ((s.size : Int) + 1) (by omega) (by omega), wrap_in (((text s).size : Int) - s.size) (by omega) (by omega), if_neg (by omega), hm, Option.bind_some,
    show varint_New.f (text s) = some (text s, 0, false) from rfl, Option.bind_some, hc, Option.bind_some, wrap_in _ (by omega) (by omega), if_pos (by omega), if_pos (by omega),
    show ((text s).size : Int) - s.size + c = (((num s.size).size + c : Nat) : Int) by omega, Int.toNat_natCast, show ∀ t, varint_New.f t = some (t, 0, false) from fun _ => rfl, Option.bind_some, if_pos rfl]
  dsimp only
  have t1 := take_cut s hs s.size (by omega) m 49 (by omega)
  have e1 : (text s).extract 0 ((num s.size).size + s.size) = text s := by
    rw [← hz]
    apply ByteArray.ext
    rw [ByteArray.data_extract]
    simp
  rw [e1] at t1
  have t2 := take_cut s hs c (by omega) s.size 49 (by omega)
  generalize (text s).extract 0 ((num s.size).size + c) = u at *
  have hl0 : (⟨#[]⟩ : ByteArray).toList = [] := by rw [toList_eq]
  have hbad : ∀ (x : ByteArray) (p : Int) (q : Bool), varint_Reader_Bad.f x p q = some (q, x, p, q) := fun _ _ _ => rfl
  have hz1 : (([] : List UInt8) == s.toList) = (s.toList == ([] : List UInt8)) := by
    rw [Bool.eq_iff_iff, beq_iff_eq, beq_iff_eq]; exact eq_comm
  simp only [billetlaw01_VarintMost.j0]
  by_cases hm3 : m = s.size
  · subst hm3
    rw [if_neg (by omega)] at t1
    by_cases hc3 : c = s.size
    · subst hc3
      rw [if_neg (by omega)] at t2
      rw [if_neg (by simp), t1, Option.bind_some, t2, Option.bind_some, wrap_in ((s.size : Int) + 1) (by omega) (by omega), hc, Option.bind_some]
      dsimp only
      rw [if_pos rfl, if_pos (by simp), hbad, Option.bind_some]
      dsimp only
      rw [if_pos (by simp), Option.bind_some]
      dsimp only
      rw [if_pos (by simp), if_pos rfl, if_pos rfl]
    · rw [if_pos (by omega)] at t2
      rw [if_neg (by simp), t1, Option.bind_some, t2, Option.bind_some, wrap_in ((s.size : Int) + 1) (by omega) (by omega), hc, Option.bind_some]
      dsimp only
      rw [if_pos rfl, if_pos (by simp), hbad, Option.bind_some]
      dsimp only
      rw [if_pos (by simp), hbad, Option.bind_some]
      dsimp only
      rw [if_pos (by simp; omega), if_neg (by omega), if_neg (by omega), hl0]
      rfl
  · rw [if_pos (by omega)] at t1
    have hb2 : (true == decide ((m : Int) < (s.size : Int))) = true := by simp; omega
    by_cases hc3 : c = s.size
    · subst hc3
      rw [if_neg (by omega)] at t2
      rw [if_neg (by simp), t1, Option.bind_some, t2, Option.bind_some, wrap_in ((s.size : Int) + 1) (by omega) (by omega), hc, Option.bind_some]
      dsimp only
      rw [if_neg (by omega), hl0, hz1, if_pos (by simp), hbad, Option.bind_some]
      dsimp only
      rw [if_pos hb2, left_eq (text s) (num s.size).size true (by omega) (by omega), Option.bind_some]
      dsimp only
      rw [if_pos (by omega), hbad, Option.bind_some]
      dsimp only
      rw [if_pos (by simp), if_pos rfl, if_pos rfl]
    · rw [if_pos (by omega)] at t2
      rw [if_neg (by simp), t1, Option.bind_some, t2, Option.bind_some, wrap_in ((s.size : Int) + 1) (by omega) (by omega), hc, Option.bind_some]
      dsimp only
      rw [if_neg (by omega), hl0, hz1, if_pos (by simp), hbad, Option.bind_some]
      dsimp only
      rw [if_pos hb2, left_eq (text s) (num s.size).size true (by omega) (by omega), Option.bind_some]
      dsimp only
      rw [if_pos (by omega), hbad, Option.bind_some]
      dsimp only
      rw [if_pos (by simp; omega), if_neg (by omega), if_neg (by omega)]
      rfl
theorem walk (a0 : ByteArray) (a1 a2 : Int) (w : World) (w0 : a0.size ≤ 140737488351232) (w1 : (Lit.int .i64 a1).wf = true) (w2 : (Lit.int .i64 a2).wf = true) :
    Calls Try.prog 8 #[.string a0, .int .i64 a1, .int .i64 a2] w fun e w' => e = .returned (.bool true) ∧ Below w.heap.size w w' := by
  have b1 := int64_bd w1
  have b2 := int64_bd w2
  exact billetlaw01_VarintMost.calls 50 a0 a1 a2 true w (VarintMost a0 a1 a2 w0 b1.1 b1.2 b2.1 b2.2)
end Go.Proofs.Ytbgmgigjogoemaa.Mostp
