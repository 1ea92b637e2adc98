/- Frames one behind the other. -/
import Derived.Test.YtblhcbnejfmaaaaFbk
import Derived.Test.YtblhcbnejfmaaaaQy4
namespace Go.Proofs.Ytblhcbnejfmaaaa.Fal
set_option linter.unusedVariables false
set_option linter.unusedSimpArgs false
open Go.RowKit Go.Proofs.YtblhcbnejfmaaaaW.PrintWords Go.Proofs.YtblhcbnejfmaaaaW.PrintLast Go.Proofs.YtblhcbnejfmaaaaW.PrintMore Go.Proofs.Ytblhcbnejfmaaaa.Num Go.Proofs.Ytblhcbnejfmaaaa.Vth Go.Proofs.Ytblhcbnejfmaaaa.Giv Go.Proofs.Ytblhcbnejfmaaaa.Q Go.Proofs.Ytblhcbnejfmaaaa.Vrd Go.Proofs.Ytblhcbnejfmaaaa.Fad Go.Proofs.Ytblhcbnejfmaaaa.Fth Go.Proofs.Ytblhcbnejfmaaaa.Fbk
theorem take_ok (s : ByteArray) (h : (take s).2.2 = 0) : ∃ n : Nat, (take s).2.1 = n ∧ 5 ≤ n ∧ n ≤ s.size := by
  unfold take at h ⊢
  split at h
  · exact absurd h (by decide)
  · rename_i h0
    rw [if_neg h0]
    split at h
    · split at h
      · exact absurd h (by decide)
      · exact absurd h (by decide)
    · rename_i z c hd
      have hp := dec_pos _ _ _ hd
      split at h
      · exact absurd h (by decide)
      · rename_i h1
        split at h
        · exact absurd h (by decide)
        · rename_i h2
          split at h
          · rename_i h3
            rw [if_neg h1, if_neg h2, if_pos h3]
            exact ⟨c + (unzig z).toNat + 4, rfl, by omega, by omega⟩
          · exact absurd h (by decide)
def all : Nat → ByteArray → List ByteArray × Nat × Int
  | 0, _ => ([], 0, 0)
  | d + 1, r => if r.size = 0 then ([], 0, 0) else if (take r).2.2 = 0 then
      ((take r).1 :: (all d (r.extract (take r).2.1.toNat r.size)).1, (take r).2.1.toNat + (all d (r.extract (take r).2.1.toNat r.size)).2.1, (all d (r.extract (take r).2.1.toNat r.size)).2.2)
    else ([], 0, (take r).2.2)
theorem all_zero (d : Nat) (r : ByteArray) (h : r.size = 0) : all d r = ([], 0, 0) := by
  cases d with
  | zero => rfl
  | succ d => simp only [all]; rw [if_pos h]
theorem all_fuel (d : Nat) : ∀ (e : Nat) (r : ByteArray), r.size ≤ d → r.size ≤ e → all d r = all e r := by
  induction d with
  | zero => intro e r h1 h2; rw [all_zero 0 r (by omega), all_zero e r (by omega)]
  | succ d ih =>
    intro e r h1 h2
    cases e with
    | zero => rw [all_zero 0 r (by omega), all_zero _ r (by omega)]
    | succ e =>
      simp only [all]
      by_cases h0 : r.size = 0
      · rw [if_pos h0, if_pos h0]
      · rw [if_neg h0, if_neg h0]
        by_cases ht : (take r).2.2 = 0
        · obtain ⟨n, hn, h5, hl⟩ := take_ok r ht
          rw [if_pos ht, if_pos ht, hn, Int.toNat_natCast, ih e _ (by rw [ByteArray.size_extract]; omega) (by rw [ByteArray.size_extract]; omega)]
        · rw [if_neg ht, if_neg ht]
theorem ext_ext (s : ByteArray) (u n : Nat) (h : u + n ≤ s.size) : (s.extract u s.size).extract n (s.extract u s.size).size = s.extract (u + n) s.size := by
  apply bytes_inj
  have hl := bytesOf_length s
  rw [bytes_ext, bytes_ext, bytes_ext, ByteArray.size_extract, List.take_of_length_le (l := List.drop u _) (by simp; omega), List.take_of_length_le (by omega), List.drop_drop]
theorem all_used (d : Nat) : ∀ r : ByteArray, (all d r).2.1 ≤ r.size := by
  induction d with
  | zero => intro r; simp [all]
  | succ d ih =>
    intro r
    simp only [all]
    split
    · simp
    · split
      · rename_i ht
        obtain ⟨n, hn, h5, hl⟩ := take_ok r ht
        have := ih (r.extract (take r).2.1.toNat r.size)
        rw [hn, Int.toNat_natCast] at this ⊢
        rw [ByteArray.size_extract] at this
        dsimp only
        omega
      · simp
theorem all_l0 (s : ByteArray) (hs : s.size ≤ 4611686018427387904) (d : Nat) : ∀ (k u : Nat) (l : List ByteArray), u ≤ s.size → s.size - u ≤ d → d + 6001 ≤ k → l.length + d < 8796093022208 →
    frame_All.l0 k s l u 0 = some (l ++ (all d (s.extract u s.size)).1, ((u + (all d (s.extract u s.size)).2.1 : Nat) : Int), (all d (s.extract u s.size)).2.2) := by
  induction d with
  | zero =>
    intro k u l h1 h2 h3 h4
    obtain ⟨k, rfl⟩ : ∃ m, k = m + 1 := ⟨k - 1, by omega⟩
    simp only [frame_All.l0]
    rw [if_neg (by omega)]
    simp [all]
  | succ d ih =>
    intro k u l h1 h2 h3 h4
    obtain ⟨k, rfl⟩ : ∃ m, k = m + 1 := ⟨k - 1, by omega⟩
    simp only [frame_All.l0]
    by_cases h0 : u < s.size
    · have hsz : (s.extract u s.size).size = s.size - u := by rw [ByteArray.size_extract]; omega
      have hne : ¬ (s.extract u s.size).size = 0 := by omega
      rw [if_pos (by omega), if_pos (by omega), if_pos (by omega), Int.toNat_natCast, Take_eq k (by omega) _ (by omega), Option.bind_some]
      by_cases ht : (take (s.extract u s.size)).2.2 = 0
      · obtain ⟨n, hn, h5, hl⟩ := take_ok _ ht
        have e : all (d + 1) (s.extract u s.size) = ((take (s.extract u s.size)).1 :: (all d (s.extract (u + n) s.size)).1, n + (all d (s.extract (u + n) s.size)).2.1, (all d (s.extract (u + n) s.size)).2.2) := by
          simp only [all]
          rw [if_neg hne, if_pos ht, hn, Int.toNat_natCast, ext_ext s u n (by omega)]
        have hih := ih k (u + n) (l ++ [(take (s.extract u s.size)).1]) (by omega) (by omega) (by omega) (by rw [List.length_append, List.length_singleton]; omega)
        rw [if_pos ht, if_pos (by omega), hn, wrap_in _ (by omega) (by omega), ht, show (u : Int) + n = ((u + n : Nat) : Int) by omega, hih, e]
        simp [Nat.add_assoc]
      · have e : all (d + 1) (s.extract u s.size) = ([], 0, (take (s.extract u s.size)).2.2) := by
          simp only [all]
          rw [if_neg hne, if_neg ht]
        rw [if_neg ht, e]
        simp
    · rw [if_neg (by omega), all_zero _ _ (by rw [ByteArray.size_extract]; omega)]
      simp
theorem All_eq (k : Nat) (s : ByteArray) (hs : s.size < 8796093022208) (hk : s.size + 6001 ≤ k) : frame_All.f k s = some ((all s.size s).1, ((all s.size s).2.1 : Int), (all s.size s).2.2) := by
  unfold frame_All.f
  have := all_l0 s (by omega) s.size k 0 [] (by omega) (by omega) hk (by simpa using hs)
  rw [show ((0 : Nat) : Int) = 0 from rfl, ext_all] at this
  rw [this]; simp
def cat : List ByteArray → ByteArray
  | [] => ⟨#[]⟩
  | p :: ps => fr p ++ cat ps
theorem cat_snoc (ps : List ByteArray) (p : ByteArray) : cat (ps ++ [p]) = cat ps ++ fr p := by
  induction ps with
  | nil => simp only [List.nil_append, cat]; rw [app_empty, empty_app]
  | cons q qs ih => simp only [List.cons_append, cat]; rw [ih, ByteArray.append_assoc]
theorem all_cat (ps : List ByteArray) (r : ByteArray) (hp : ∀ p ∈ ps, p.size ≤ 4096) : all (cat ps ++ r).size (cat ps ++ r) = (ps ++ (all r.size r).1, (cat ps).size + (all r.size r).2.1, (all r.size r).2.2) := by
  induction ps with
  | nil => simp only [cat]; rw [empty_app]; simp; rw [show (⟨#[]⟩ : ByteArray).size = 0 from rfl]; simp
  | cons p ps ih =>
    simp only [cat]
    have ht := take_fr p (cat ps ++ r) (hp p (by simp))
    have hz := fr_size p
    rw [ByteArray.append_assoc]
    obtain ⟨d, hd⟩ : ∃ d, (fr p ++ (cat ps ++ r)).size = d + 1 := ⟨(fr p ++ (cat ps ++ r)).size - 1, by rw [ByteArray.size_append]; omega⟩
    rw [hd]
    simp only [all]
    rw [if_neg (by omega), ht]
    dsimp only
    rw [if_pos rfl, Int.toNat_natCast, ext_right, all_fuel d (cat ps ++ r).size _ (by rw [ByteArray.size_append] at hd; omega) (by omega), ih (fun q hq => hp q (by simp [hq]))]
    simp [ByteArray.size_append, Nat.add_assoc]
theorem same_l0 (l : List ByteArray) (hl : l.length ≤ 4611686018427387904) (d : Nat) : ∀ (k i : Nat), i + d = l.length → d < k → billetlaw03_Same.l0 k l l i = some true := by
  induction d with
  | zero =>
    intro k i h1 h2
    obtain ⟨k, rfl⟩ : ∃ m, k = m + 1 := ⟨k - 1, by omega⟩
    simp only [billetlaw03_Same.l0]
    rw [if_neg (by omega)]
  | succ d ih =>
    intro k i h1 h2
    obtain ⟨k, rfl⟩ : ∃ m, k = m + 1 := ⟨k - 1, by omega⟩
    simp only [billetlaw03_Same.l0]
    rw [if_pos (by omega), if_pos (by omega), if_pos (by omega), if_pos trivial, wrap_in _ (by omega) (by omega), show (i : Int) + 1 = ((i + 1 : Nat) : Int) by omega]
    exact ih k (i + 1) (by omega) (by omega)
theorem same_self (k : Nat) (l : List ByteArray) (hl : l.length ≤ 4611686018427387904) (hk : l.length < k) : billetlaw03_Same.f k l l = some true := by
  unfold billetlaw03_Same.f
  rw [if_pos rfl]
  exact same_l0 l hl l.length k 0 (by omega) hk
theorem all_len (d : Nat) : ∀ r : ByteArray, (all d r).1.length ≤ r.size := by
  induction d with
  | zero => intro r; simp [all]
  | succ d ih =>
    intro r
    simp only [all]
    split
    · simp
    · split
      · rename_i ht
        obtain ⟨n, hn, h5, hl⟩ := take_ok r ht
        have := ih (r.extract (take r).2.1.toNat r.size)
        rw [hn, Int.toNat_natCast] at this ⊢
        rw [ByteArray.size_extract] at this
        dsimp only
        rw [List.length_cons]
        omega
      · simp
end Go.Proofs.Ytblhcbnejfmaaaa.Fal
