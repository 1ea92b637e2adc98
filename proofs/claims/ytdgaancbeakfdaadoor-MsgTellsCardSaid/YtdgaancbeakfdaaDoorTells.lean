/- FrameTells: the document's answer is the program's, for texts that are not too great for a list of their frames. -/
import Derived.Test.YtdgaancbeakfdaaDoorFbk
import Derived.Test.YtdgaancbeakfdaaDoorRrd
import Derived.Test.YtdgaancbeakfdaaDoorQx76
import Derived.Test.YtdgaancbeakfdaaDoorQy8
namespace Go.Proofs.YtdgaancbeakfdaaDoor.Tells
set_option linter.unusedVariables false
set_option linter.unusedSimpArgs false
open Go.RowKit Go.Proofs.YtdgaancbeakfdaaDoorW.PrintWords Go.Proofs.YtdgaancbeakfdaaDoorW.PrintLast Go.Proofs.YtdgaancbeakfdaaDoor.Mo Go.Proofs.YtdgaancbeakfdaaDoor.Num Go.Proofs.YtdgaancbeakfdaaDoor.Vth Go.Proofs.YtdgaancbeakfdaaDoor.Giv Go.Proofs.YtdgaancbeakfdaaDoor.Q Go.Proofs.YtdgaancbeakfdaaDoor.Vrd Go.Proofs.YtdgaancbeakfdaaDoor.Fad Go.Proofs.YtdgaancbeakfdaaDoor.Fth Go.Proofs.YtdgaancbeakfdaaDoor.Fbk Go.Proofs.YtdgaancbeakfdaaDoor.Fbk Go.Proofs.YtdgaancbeakfdaaDoor.Rrd
theorem rText_eq (k : Nat) (hk : 40 ≤ k) (s : ByteArray) (hs : s.size ≤ 4611686018427387904) : billetref01_Text.f k s = some (text s) := by
  unfold billetref01_Text.f
  have := num_size_bd s.size
  rw [ref_num k hk _ (by omega) (by omega), Option.bind_some, if_pos (by omega)]; rfl
theorem rfour_eq (v : Int) (h0 : 0 ≤ v) (h1 : v < 4294967296) : billetref03_four.f v = some (strOfNums (four v)) := by
  unfold billetref03_four.f four
  rw [Int.tdiv_eq_ediv_of_nonneg h0, Int.tdiv_eq_ediv_of_nonneg h0, Int.tdiv_eq_ediv_of_nonneg h0, wrap_in (v / 16777216) (by omega) (by omega), wrap_in (v / 65536) (by omega) (by omega), wrap_in (v / 256) (by omega) (by omega),
    tmod_pos' _ _ (by omega), tmod_pos' _ _ (by omega), tmod_pos' _ _ (by omega), tmod_pos' _ _ (by omega)]
  congr 3
  · omega
  · congr 1
    · omega
    · congr 1
      · omega
      · congr 1; omega
theorem rLay_eq (k : Nat) (p : ByteArray) (hp : p.size ≤ 4096) (hk : 5000 ≤ k) : billetref03_Lay.f k p = some (fr p, 0) := by
  unfold billetref03_Lay.f
  have := num_size_bd p.size
  have h2 := text_size p
  have h4 := tail4_size (text p)
  have hb := hv_bd (text p)
  have he := en_bd _ hb.1 hb.2.1 hb.2.2.1 hb.2.2.2
  unfold tail4 at h4
  rw [if_neg (by omega), rText_eq k (by omega) p (by omega), Option.bind_some, rSum_eq k _ (by omega) (by omega), Option.bind_some, wrap_in _ (by omega) (by omega), rfour_eq _ he.1 he.2, Option.bind_some, if_pos (by rw [h4]; omega)]
  rfl
theorem rLay_big (k : Nat) (p : ByteArray) (hp : 4096 < p.size) : billetref03_Lay.f k p = some (⟨#[]⟩, 1) := by
  unfold billetref03_Lay.f; rw [if_pos (by omega)]
theorem dec_one (s : ByteArray) (h : s.size = 1) (hb : 128 ≤ bt s 0) : dec 0 0 (bytesOf s) = none := by
  have hl : (bytesOf s).length = 1 := by rw [bytesOf_length, h]
  have hx := drop_step s 0 (by omega)
  rw [List.drop_zero, List.drop_of_length_le (by omega)] at hx
  rw [hx]
  simp only [dec]
  rw [show ((0 : Nat) : Int) = 0 from rfl, if_neg (by omega), if_neg (by omega), if_neg (by omega)]
theorem rj1_bad (k : Nat) (hk : 1 ≤ k) (s : ByteArray) (n : Int) (r : ByteArray) (b : Bool) : billetref03_Take.j1 k s n true r b = some (⟨#[]⟩, 0, 31) := by
  obtain ⟨k, rfl⟩ : ∃ m, k = m + 1 := ⟨k - 1, by omega⟩
  simp only [billetref03_Take.j1]
  rw [if_pos trivial]
theorem ext_size (s : ByteArray) (c : Nat) (h : c ≤ s.size) : (s.extract c s.size).size = s.size - c := by rw [ByteArray.size_extract]; omega
theorem text_of (s : ByteArray) (z : Int) (c m : Nat) (hd : dec 0 0 (bytesOf s) = some (z, c)) (hz : unzig z = m) (hm : (m : Int) ≤ 4096) (hl : c + m ≤ s.size) : s.extract 0 (c + m) = text (s.extract c (c + m)) := by
  have hf := dec_form s z c hd (by omega)
  have hsz : (s.extract c (c + m)).size = m := by rw [ByteArray.size_extract]; omega
  apply bytes_inj
  unfold text
  rw [bytes_append, hsz, ← hz, ← hf, bytes_ext, bytes_ext, List.drop_zero]
  have e : (bytesOf s).take c = ((bytesOf s).take (c + m)).take c := by rw [List.take_take, Nat.min_eq_left (by omega)]
  rw [e, List.take_append_drop]
theorem rj1_good (k : Nat) (hk : 5001 ≤ k) (s : ByteArray) (hs : s.size ≤ 4611686018427387904) (z : Int) (c m : Nat) (hd : dec 0 0 (bytesOf s) = some (z, c)) (hz : unzig z = m) (hm : (m : Int) ≤ 4096) (hc : c ≤ 10) (hcs : c ≤ s.size) :
    billetref03_Take.j1 k s m false (s.extract c s.size) false = some (if (s.size : Int) - c < m + 4 then (⟨#[]⟩, 0, 30)
      else if seal_ (s.extract 0 (c + m)) = s.extract 0 (c + m + 4) then (s.extract c (c + m), ((c + m + 4 : Nat) : Int), 0) else (⟨#[]⟩, 0, 31)) := by
  obtain ⟨k, rfl⟩ : ∃ m, k = m + 1 := ⟨k - 1, by omega⟩
  simp only [billetref03_Take.j1]
  have hleft : billetref01_Reader_Left.f (s.extract c s.size) false = some (((s.size : Int) - c), s.extract c s.size, false) := by
    unfold billetref01_Reader_Left.f; rw [ext_size s c hcs]; congr 2; omega
  rw [if_neg (by simp), hleft, Option.bind_some, wrap_in ((m : Int) + 4) (by omega) (by omega)]
  dsimp only
  by_cases h1 : (s.size : Int) - c < m + 4
  · rw [if_pos h1, if_pos h1]
  · rw [if_neg h1, if_neg h1, hleft, Option.bind_some]
    dsimp only
    rw [wrap_in ((s.size : Int) - ((s.size : Int) - c)) (by omega) (by omega), show (s.size : Int) - ((s.size : Int) - c) = c by omega, wrap_in ((c : Int) + m) (by omega) (by omega), wrap_in ((c : Int) + m + 4) (by omega) (by omega), if_pos (by omega), if_pos (by omega), if_pos (by omega),
      show (c : Int) + m = ((c + m : Nat) : Int) by omega, show ((c + m : Nat) : Int) + 4 = ((c + m + 4 : Nat) : Int) by omega, Int.toNat_natCast, Int.toNat_natCast, Int.toNat_natCast,
      rLay_eq k _ (by rw [ByteArray.size_extract]; omega) (by omega), Option.bind_some, if_pos (by omega), if_pos (by omega)]
    rw [text_of s z c m hd hz hm (by omega)]
    by_cases h2 : seal_ (text (s.extract c (c + m))) = s.extract 0 (c + m + 4)
    · rw [if_pos (show (s.extract 0 (c + m + 4)).toList = (fr (s.extract c (c + m)), (0 : Int)).fst.toList from (toList_iff _ _).2 h2.symm), if_pos h2]
    · rw [if_neg (show ¬ (s.extract 0 (c + m + 4)).toList = (fr (s.extract c (c + m)), (0 : Int)).fst.toList from fun h => h2 ((toList_iff _ _).1 h).symm), if_neg h2]
theorem rTake_eq (k : Nat) (s : ByteArray) (hs : s.size ≤ 4611686018427387904) (hk : s.size + 6000 ≤ k) : billetref03_Take.f k s = some (take s) := by
  unfold billetref03_Take.f take
  have hj : ∀ k, s.size + 5500 ≤ k → s.size ≠ 0 → ¬ (s.size = 1 ∧ 128 ≤ bt s 0) → billetref03_Take.j0 k s false = some (match dec 0 0 (bytesOf s) with
    | none => if s.size = 1 ∧ 128 ≤ bt s 0 then (⟨#[]⟩, 0, 30) else (⟨#[]⟩, 0, 31)
    | some (z, c) => if unzig z < 0 ∨ unzig z > 4096 then (⟨#[]⟩, 0, 31)
      else if (s.size : Int) - c < unzig z + 4 then (⟨#[]⟩, 0, 30)
      else if seal_ (s.extract 0 (c + (unzig z).toNat)) = s.extract 0 (c + (unzig z).toNat + 4) then (s.extract c (c + (unzig z).toNat), ((c + (unzig z).toNat + 4 : Nat) : Int), 0) else (⟨#[]⟩, 0, 31)) := by
    intro k hk h0 h1
    obtain ⟨k, rfl⟩ : ∃ m, k = m + 1 := ⟨k - 1, by omega⟩
    simp only [billetref03_Take.j0]
    rw [if_neg (by simp), show billetref01_New.f s = some (s, false) from rfl, Option.bind_some]
    dsimp only
    rw [RNum_good s hs k (by omega)]
    cases hd : dec 0 0 (bytesOf s) with
    | none =>
      rw [show rout s none = (0, s, true) from rfl, Option.bind_some]
      dsimp only
      rw [show billetref01_Reader_Bad.f s true = some (true, s, true) from rfl, Option.bind_some]
      dsimp only
      rw [if_pos rfl, rj1_bad k (by omega), if_neg h1]
    | some q =>
      obtain ⟨z, c⟩ := q
      have hp := dec_pos _ _ _ hd
      rw [bytesOf_length] at hp
      rw [show rout s (some (z, c)) = (unzig z, s.extract c s.size, false) from rfl, Option.bind_some]
      dsimp only
      rw [show billetref01_Reader_Bad.f (s.extract c s.size) false = some (false, s.extract c s.size, false) from rfl, Option.bind_some]
      dsimp only
      rw [if_neg (by simp)]
      by_cases hn : unzig z < 0
      · rw [if_pos hn, rj1_bad k (by omega), if_pos (.inl hn)]
      · rw [if_neg hn]
        by_cases hg : unzig z > 4096
        · rw [decide_eq_true hg, rj1_bad k (by omega), if_pos (.inr hg)]
        · obtain ⟨m, hm⟩ := Int.eq_ofNat_of_zero_le (show 0 ≤ unzig z by omega)
          rw [decide_eq_false hg, if_neg (show ¬ (unzig z < 0 ∨ unzig z > 4096) by omega), hm, Int.toNat_natCast]
          exact rj1_good k (by omega) s hs z c m hd hm (by omega) (by omega) (by omega)
  have hj2 : ∀ k, 1 ≤ k → billetref03_Take.j0 k s true = some (⟨#[]⟩, 0, 30) := by
    intro k hk
    obtain ⟨k, rfl⟩ : ∃ m, k = m + 1 := ⟨k - 1, by omega⟩
    simp only [billetref03_Take.j0]
    rw [if_pos trivial]
  by_cases h0 : s.size = 0
  · rw [if_pos ((empty_iff s).2 h0), if_pos h0, hj2 k (by omega)]
  · rw [if_neg (fun h => h0 ((empty_iff s).1 h)), if_neg h0]
    by_cases h1 : s.size = 1
    · rw [if_pos (by omega), if_pos (by omega)]
      by_cases h2 : 128 ≤ bt s 0
      · rw [decide_eq_true h2, hj2 k (by omega), dec_one s h1 h2]
        dsimp only
        rw [if_pos ⟨h1, h2⟩]
      · rw [decide_eq_false (show ¬ bt s 0 ≥ 128 from h2)]
        exact hj k (by omega) h0 (by omega)
    · rw [if_neg (by omega)]
      exact hj k (by omega) h0 (by omega)
end Go.Proofs.YtdgaancbeakfdaaDoor.Tells
