/- What is taken of frames, whole, cut and turned. -/
import Derived.Test.YtdgaancbeakfdaaDoorFth
namespace Go.Proofs.YtdgaancbeakfdaaDoor.Fbk
set_option linter.unusedVariables false
set_option linter.unusedSimpArgs false
open Go.RowKit Go.Proofs.YtdgaancbeakfdaaDoorW.PrintWords Go.Proofs.YtdgaancbeakfdaaDoorW.PrintLast Go.Proofs.YtdgaancbeakfdaaDoor.Mo Go.Proofs.YtdgaancbeakfdaaDoor.Num Go.Proofs.YtdgaancbeakfdaaDoor.Vth Go.Proofs.YtdgaancbeakfdaaDoor.Giv Go.Proofs.YtdgaancbeakfdaaDoor.Q Go.Proofs.YtdgaancbeakfdaaDoor.Vrd Go.Proofs.YtdgaancbeakfdaaDoor.Fad Go.Proofs.YtdgaancbeakfdaaDoor.Fth
theorem int64_bd' {a : Int} (h : (Lit.int .i64 a).wf = true) : -9223372036854775808 ≤ a ∧ a ≤ 9223372036854775807 := by
  simp [Lit.wf, IntKind.min, IntKind.max, IntKind.bits, IntKind.signed] at h; omega
theorem ba_ext {s t : ByteArray} (h : s.data.toList = t.data.toList) : s = t := by
  cases s; cases t; simp at h; rw [h]
theorem ext_left (a b : ByteArray) : (a ++ b).extract 0 a.size = a := by
  apply ba_ext
  have ha : a.size = a.data.size := rfl
  rw [ByteArray.data_extract, ByteArray.data_append, ha, Array.toList_extract, List.extract_eq_take_drop]
  simp
theorem ext_right (a b : ByteArray) : (a ++ b).extract a.size (a ++ b).size = b := by
  apply ba_ext
  have ha : a.size = a.data.size := rfl
  have hb : b.size = b.data.size := rfl
  rw [ByteArray.size_append, ByteArray.data_extract, ByteArray.data_append, ha, hb, Array.toList_extract, List.extract_eq_take_drop]
  simp
  exact List.take_of_length_le (by rw [Array.length_toList]; omega)
theorem ext_split (s : ByteArray) (n : Nat) (h : n ≤ s.size) : s.extract 0 n ++ s.extract n s.size = s := by
  apply ba_ext
  have hs : s.size = s.data.size := rfl
  rw [ByteArray.data_append, ByteArray.data_extract, ByteArray.data_extract, Array.toList_append, Array.toList_extract, Array.toList_extract, List.extract_eq_take_drop, List.extract_eq_take_drop, hs]
  simp
  rw [List.take_of_length_le (l := List.drop n _) (by rw [List.length_drop, Array.length_toList]; omega), List.take_append_drop]
theorem ext_all (s : ByteArray) : s.extract 0 s.size = s := by
  apply ba_ext
  have hs : s.size = s.data.size := rfl
  rw [ByteArray.data_extract, Array.toList_extract, List.extract_eq_take_drop, hs]
  simp
  exact List.take_of_length_le (by rw [Array.length_toList]; omega)
theorem app_empty (s : ByteArray) : s ++ (⟨#[]⟩ : ByteArray) = s := by
  apply ba_ext; rw [ByteArray.data_append]; simp
theorem empty_app (s : ByteArray) : (⟨#[]⟩ : ByteArray) ++ s = s := by
  apply ba_ext; rw [ByteArray.data_append]; simp
theorem bytes_ext (s : ByteArray) (i j : Nat) : bytesOf (s.extract i j) = ((bytesOf s).take j).drop i := by
  unfold bytesOf
  rw [ByteArray.data_extract, Array.toList_extract, List.extract_eq_take_drop, List.map_take, List.map_drop, List.take_drop]
  by_cases h : i ≤ j
  · rw [show i + (j - i) = j by omega]
  · rw [show i + (j - i) = i by omega, List.drop_of_length_le (l := List.take i _) (by simp; omega), List.drop_of_length_le (by simp; omega)]
/-! ### a frame is taken -/
theorem num_cut (n : Nat) (hn : n ≤ 4096) : (num n).size ≤ 2 ∧ ((num n).size = 2 → 64 ≤ n) ∧ ((num n).size = 2 → 128 ≤ bt (num n) 0) := by
  have h : ∀ n : Nat, n < 4097 → (digs 9 (zig n)).length ≤ 2 ∧ ((digs 9 (zig n)).length = 2 → 64 ≤ n ∧ 128 ≤ (digs 9 (zig n)).getD 0 0) := by
    intro n hn
    have hz : zig n = 2 * n := by unfold zig; split <;> omega
    rw [hz]
    simp only [digs]
    by_cases h1 : 128 ≤ (2 : Int) * n
    · rw [if_pos h1, if_neg (by omega)]
      simp; omega
    · rw [if_neg h1]; simp
  have := h n (by omega)
  rw [num_size]
  refine ⟨this.1, fun h => (this.2 h).1, fun h => ?_⟩
  have h2 := (this.2 h).2
  rw [← num_bytes n (by omega) (by omega)] at h2
  rw [← rd_bytesOf]; exact h2
theorem take_fr (p r : ByteArray) (hp : p.size ≤ 4096) : take (fr p ++ r) = (p, ((fr p).size : Int), 0) := by
  have hs : (fr p ++ r).size = (num p.size).size + p.size + 4 + r.size := by rw [ByteArray.size_append, fr_size]
  have hd : dec 0 0 (bytesOf (fr p ++ r)) = some (zig p.size, (num p.size).size) := by
    unfold fr seal_ text
    rw [bytes_append, bytes_append, bytes_append, List.append_assoc, List.append_assoc]
    exact dec_num _ _ (by omega) (by omega)
  unfold take
  rw [if_neg (by omega), hd]
  dsimp only
  rw [unzig_zig, if_neg (by omega), if_neg (by omega), Int.toNat_natCast]
  have e1 : (fr p ++ r).extract 0 ((num p.size).size + p.size) = text p := by
    rw [show fr p ++ r = text p ++ (tail4 (text p) ++ r) by unfold fr seal_; rw [ByteArray.append_assoc], ← text_size]
    exact ext_left _ _
  have e2 : (fr p ++ r).extract 0 ((num p.size).size + p.size + 4) = fr p := by
    rw [← fr_size]; exact ext_left _ _
  have e3 : (fr p ++ r).extract (num p.size).size ((num p.size).size + p.size) = p := by
    rw [show fr p ++ r = num p.size ++ p ++ (tail4 (text p) ++ r) by unfold fr seal_ text; simp only [ByteArray.append_assoc]]
    exact extract_mid _ _ _
  rw [e1, e2, e3, if_pos (show seal_ (text p) = fr p from rfl), fr_size]
theorem fr_bytes (p : ByteArray) : bytesOf (fr p) = bytesOf (num p.size) ++ bytesOf p ++ four (en (hv (text p))) := by
  unfold fr seal_ text; rw [bytes_append, bytes_append, tail4_bytes]
theorem bt_ext (s : ByteArray) (i j : Nat) (h : i < j) (h2 : j ≤ s.size) : bt (s.extract 0 j) i = bt s i := by
  rw [← rd_bytesOf, ← rd_bytesOf, bytes_ext, List.drop_zero]
  simp [rd, List.getD_eq_getElem?_getD, List.getElem?_take, h]
theorem bt_app (s t : ByteArray) (i : Nat) (h : i < s.size) : bt (s ++ t) i = bt s i := by
  have h' : i < (bytesOf s).length := by rw [bytesOf_length]; exact h
  rw [← rd_bytesOf, ← rd_bytesOf, bytes_append]
  simp only [rd, List.getD_eq_getElem?_getD, Int.toNat_natCast]
  rw [List.getElem?_append_left h']
theorem take_cut (p : ByteArray) (hp : p.size ≤ 4096) (j : Nat) (hj : j < (fr p).size) : take ((fr p).extract 0 j) = (⟨#[]⟩, 0, 30) := by
  have hsz := fr_size p
  have hc := num_cut p.size hp
  have hc1 := num_size_bd p.size
  have he : ((fr p).extract 0 j).size = j := by rw [ByteArray.size_extract]; omega
  unfold take
  rw [he]
  by_cases h0 : j = 0
  · rw [if_pos h0]
  · rw [if_neg h0]
    by_cases h1 : j < (num p.size).size
    · have h2 : j = 1 := by omega
      subst h2
      have hb : 128 ≤ bt ((fr p).extract 0 1) 0 := by
        have := bt_ext (fr p) 0 1 (by omega) (by omega)
        rw [show ((0 : Nat) : Int) = 0 from rfl] at this
        rw [this]
        have h3 := hc.2.2 (by omega)
        have h4 := bt_app (num p.size) (p ++ tail4 (text p)) 0 (by omega)
        rw [show ((0 : Nat) : Int) = 0 from rfl] at h4
        rw [show fr p = num p.size ++ (p ++ tail4 (text p)) by unfold fr seal_ text; rw [ByteArray.append_assoc], h4]
        exact h3
      have hd : dec 0 0 (bytesOf ((fr p).extract 0 1)) = none := by
        have hl : (bytesOf ((fr p).extract 0 1)).length = 1 := by rw [bytesOf_length, he]
        have hx := drop_step ((fr p).extract 0 1) 0 (by omega)
        rw [List.drop_zero, List.drop_of_length_le (by omega)] at hx
        rw [hx]
        simp only [dec]
        rw [show ((0 : Nat) : Int) = 0 from rfl, if_neg (by omega), if_neg (by omega), if_neg (by omega)]
      rw [hd]
      dsimp only
      rw [if_pos ⟨rfl, hb⟩]
    · have hd : dec 0 0 (bytesOf ((fr p).extract 0 j)) = some (zig p.size, (num p.size).size) := by
        rw [bytes_ext, List.drop_zero, fr_bytes, List.append_assoc, List.take_append, List.take_of_length_le (by rw [bytesOf_length]; omega)]
        exact dec_num _ _ (by omega) (by omega)
      rw [hd]
      dsimp only
      rw [unzig_zig, if_neg (by omega), if_pos (by omega)]
theorem fr_once (a b : ByteArray) (ha : a.size ≤ 4096) (hb : b.size ≤ 4096) (n : Nat) (h1 : n = (fr a).size ∨ n = (fr b).size) (h : (fr a).extract 0 n = (fr b).extract 0 n) (h2 : n ≤ (fr a).size) (h3 : n ≤ (fr b).size) : a = b := by
  have key : ∀ (a b : ByteArray), a.size ≤ 4096 → b.size ≤ 4096 → (fr a).size ≤ (fr b).size → (fr a).extract 0 (fr a).size = (fr b).extract 0 (fr a).size → a = b := by
    intro a b ha hb hl h
    have e := ext_split (fr b) (fr a).size hl
    rw [← h, ext_all] at e
    have t1 := take_fr a ((fr b).extract (fr a).size (fr b).size) ha
    have t2 := take_fr b ⟨#[]⟩ hb
    rw [e] at t1
    rw [app_empty, t1] at t2
    exact congrArg Prod.fst t2
  rcases h1 with rfl | rfl
  · exact key a b ha hb h3 h
  · exact (key b a hb ha h2 h.symm).symm
theorem mn_eq (n : Nat) : mn (n : Int) 4096 = ((min n 4096 : Nat) : Int) := by
  unfold mn; split <;> omega
end Go.Proofs.YtdgaancbeakfdaaDoor.Fbk
