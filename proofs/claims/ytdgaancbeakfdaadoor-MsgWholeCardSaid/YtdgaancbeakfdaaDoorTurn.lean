/- FrameTurned: a frame of which one byte is another one is none. -/
import Derived.Test.YtdgaancbeakfdaaDoorFbk
import Derived.Lib.Hide
import Derived.StillTailTactics
namespace Go.Proofs.YtdgaancbeakfdaaDoor.Turn
set_option linter.unusedVariables false
set_option linter.unusedSimpArgs false
open Go.RowKit Go.Proofs.YtdgaancbeakfdaaDoorW.PrintWords Go.Proofs.YtdgaancbeakfdaaDoorW.PrintLast Go.Proofs.YtdgaancbeakfdaaDoor.Mo Go.Proofs.YtdgaancbeakfdaaDoor.Num Go.Proofs.YtdgaancbeakfdaaDoor.Vth Go.Proofs.YtdgaancbeakfdaaDoor.Giv Go.Proofs.YtdgaancbeakfdaaDoor.Q Go.Proofs.YtdgaancbeakfdaaDoor.Vrd Go.Proofs.YtdgaancbeakfdaaDoor.Fad Go.Proofs.YtdgaancbeakfdaaDoor.Fth Go.Proofs.YtdgaancbeakfdaaDoor.Fbk
attribute [local go_sem] max2_int min2_int max_two min_two max_three min_three max_four min_four
/-! ### the plain law -/
theorem sm_set (l : List Int) : ∀ (i : Nat) (v : Int), i < l.length → sm (l.set i v) = sm l + (v - l.getD i 0) := by
  induction l with
  | nil => intro i v h; simp at h
  | cons x l ih =>
    intro i v h
    cases i with
    | zero => simp [sm]; omega
    | succ i => simp only [List.set_cons_succ, sm, List.getD_cons_succ]; rw [ih i v (by simpa using h)]; omega
theorem set_all {l : List Int} (h : ∀ x ∈ l, 0 ≤ x ∧ x ≤ 255) (i : Nat) {v : Int} (h1 : 0 ≤ v) (h2 : v ≤ 255) : ∀ x ∈ l.set i v, 0 ≤ x ∧ x ≤ 255 := by
  intro x hx
  rcases List.mem_or_eq_of_mem_set hx with h' | rfl
  · exact h x h'
  · exact ⟨h1, h2⟩
theorem getD_bt (s : ByteArray) (i : Nat) : (bytesOf s).getD i 0 = bt s i := by rw [← rd_bytesOf]; simp [rd]
theorem one_ne (s : ByteArray) (i : Nat) (y : Int) (hi : i < s.size) (h1 : 0 ≤ y) (h2 : y ≤ 255) (hne : y ≠ bt s i) : en (hv (strOfNums ((bytesOf s).set i y))) ≠ en (hv s) := by
  have hb := bt_range s i
  have hl : i < (bytesOf s).length := by rw [bytesOf_length]; exact hi
  have b1 := hv_bd (strOfNums ((bytesOf s).set i y))
  have b2 := hv_bd s
  intro h
  have h3 : (hv (strOfNums ((bytesOf s).set i y))).1 = (hv s).1 := by unfold en at h; omega
  rw [hv_eq, hv_eq, bytes_of_nums _ (set_all (bytes_range s) i h1 h2), sm_set _ _ _ hl, getD_bt] at h3
  dsimp only at h3
  omega
theorem set_ne {l : List Int} {i : Nat} {y : Int} (hi : i < l.length) (hne : y ≠ l.getD i 0) : l.set i y ≠ l := by
  intro h
  have : (l.set i y).getD i 0 = y := by simp [List.getD_eq_getElem?_getD, hi]
  rw [h] at this
  exact hne this.symm
theorem take_turned (p : ByteArray) (hp : p.size ≤ 4096) (i : Nat) (y : Int) (h1 : (num p.size).size ≤ i) (h2 : i < (fr p).size) (y0 : 0 ≤ y) (y1 : y ≤ 255) (hne : y ≠ bt (fr p) i) :
    take (strOfNums ((bytesOf (fr p)).set i y)) = (⟨#[]⟩, 0, 31) := by
  have hsz := fr_size p
  have htx := text_size p
  have hb : bytesOf (strOfNums ((bytesOf (fr p)).set i y)) = (bytesOf (fr p)).set i y := bytes_of_nums _ (set_all (bytes_range _) i y0 y1)
  have ht : (strOfNums ((bytesOf (fr p)).set i y)).size = (fr p).size := by rw [strOfNums_size, List.length_set, bytesOf_length]
  generalize strOfNums ((bytesOf (fr p)).set i y) = t at *
  have hnl : (bytesOf (num p.size)).length = (num p.size).size := bytesOf_length _
  have hd : dec 0 0 (bytesOf t) = some (zig p.size, (num p.size).size) := by
    rw [hb, fr_bytes, List.append_assoc, List.set_append, if_neg (by omega)]
    exact dec_num _ _ (by omega) (by omega)
  unfold take
  rw [if_neg (by omega), hd]
  dsimp only
  rw [unzig_zig, if_neg (by omega), if_neg (by omega), Int.toNat_natCast, if_neg]
  intro h
  rw [show (num p.size).size + p.size + 4 = t.size by omega, ext_all, ← htx] at h
  have hT : bytesOf (fr p) = bytesOf (text p) ++ four (en (hv (text p))) := by unfold fr seal_; rw [bytes_append, tail4_bytes]
  have hTl : (bytesOf (text p)).length = (text p).size := bytesOf_length _
  have e := congrArg bytesOf h
  unfold seal_ at e
  rw [bytes_append, tail4_bytes, bytes_ext, List.drop_zero, hb, hT, List.set_append] at e
  have hbi : bt (fr p) i = (bytesOf (fr p)).getD i 0 := (getD_bt _ _).symm
  by_cases hlt : i < (bytesOf (text p)).length
  · rw [if_pos hlt, List.take_append_of_le_length (by rw [List.length_set]; omega), List.take_of_length_le (by rw [List.length_set]; omega)] at e
    have e2 := List.append_cancel_left e
    have hx : t.extract 0 (text p).size = strOfNums ((bytesOf (text p)).set i y) := by
      apply bytes_inj
      rw [bytes_of_nums _ (set_all (bytes_range _) i y0 y1), bytes_ext, List.drop_zero, hb, hT, List.set_append, if_pos hlt, List.take_append_of_le_length (by rw [List.length_set]; omega), List.take_of_length_le (by rw [List.length_set]; omega)]
    rw [hx] at e2
    have b1 := hv_bd (strOfNums ((bytesOf (text p)).set i y))
    have b2 := hv_bd (text p)
    have c1 := en_bd _ b1.1 b1.2.1 b1.2.2.1 b1.2.2.2
    have c2 := en_bd _ b2.1 b2.2.1 b2.2.2.1 b2.2.2.2
    refine one_ne (text p) i y (by omega) y0 y1 ?_ (four_inj c1.1 c1.2 c2.1 c2.2 e2)
    rw [hbi, hT] at hne
    rw [← getD_bt]
    intro hc
    apply hne
    rw [hc]
    simp only [List.getD_eq_getElem?_getD]
    rw [List.getElem?_append_left hlt]
  · rw [if_neg hlt, List.take_append_of_le_length (by omega), List.take_of_length_le (by omega)] at e
    have e2 := List.append_cancel_left e
    have hx : t.extract 0 (text p).size = text p := by
      apply bytes_inj
      rw [bytes_ext, List.drop_zero, hb, hT, List.set_append, if_neg hlt, List.take_append_of_le_length (by omega), List.take_of_length_le (by omega)]
    rw [hx] at e2
    have h4 : (four (en (hv (text p)))).length = 4 := rfl
    refine set_ne (l := four (en (hv (text p)))) (i := i - (bytesOf (text p)).length) (y := y) (by omega) ?_ e2.symm
    rw [hbi, hT] at hne
    intro hc
    apply hne
    rw [hc]
    simp only [List.getD_eq_getElem?_getD]
    rw [List.getElem?_append_right (by omega)]
end Go.Proofs.YtdgaancbeakfdaaDoor.Turn
