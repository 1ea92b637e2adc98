/- The plain theory of frames: what is laid, what is taken. -/
import Derived.Test.YtdgaancbeakfdaaDoorFad
import Derived.Test.YtdgaancbeakfdaaDoorQx52
import Derived.Test.YtdgaancbeakfdaaDoorQy1
import Derived.Test.YtdgaancbeakfdaaDoorQy1
namespace Go.Proofs.YtdgaancbeakfdaaDoor.Fth
open Go.RowKit Go.Proofs.YtdgaancbeakfdaaDoorW.PrintWords Go.Proofs.YtdgaancbeakfdaaDoorW.PrintLast Go.Proofs.YtdgaancbeakfdaaDoor.Mo Go.Proofs.YtdgaancbeakfdaaDoor.Num Go.Proofs.YtdgaancbeakfdaaDoor.Vth Go.Proofs.YtdgaancbeakfdaaDoor.Giv Go.Proofs.YtdgaancbeakfdaaDoor.Q Go.Proofs.YtdgaancbeakfdaaDoor.Vrd Go.Proofs.YtdgaancbeakfdaaDoor.Fad
set_option linter.unusedVariables false
/-- a sum's four bytes -/
def four (v : Int) : List Int := [(v / 16777216) % 256, (v / 65536) % 256, (v / 256) % 256, v % 256]
theorem four_bd (v : Int) : ∀ x ∈ four v, 0 ≤ x ∧ x ≤ 255 := by
  intro x hx
  simp only [four, List.mem_cons, List.not_mem_nil, or_false] at hx
  rcases hx with rfl | rfl | rfl | rfl <;> omega
theorem four_inj {v u : Int} (h1 : 0 ≤ v) (h2 : v < 4294967296) (h3 : 0 ≤ u) (h4 : u < 4294967296) (h : four v = four u) : v = u := by
  simp only [four, List.cons.injEq, and_true] at h; omega
/-- a text's seal -/
def tail4 (s : ByteArray) : ByteArray := strOfNums (four (en (hv s)))
theorem tail4_size (s : ByteArray) : (tail4 s).size = 4 := by unfold tail4; rw [strOfNums_size]; rfl
theorem tail4_bytes (s : ByteArray) : bytesOf (tail4 s) = four (en (hv s)) := bytes_of_nums _ (four_bd _)
def seal_ (s : ByteArray) : ByteArray := s ++ tail4 s
theorem seal_size (s : ByteArray) : (seal_ s).size = s.size + 4 := by unfold seal_; rw [ByteArray.size_append, tail4_size]
theorem sealed_eq (k : Nat) (s : ByteArray) (hs : (s.size : Int) ≤ 281474976710655) (hk : s.size < k) : frame_sealed.f k s = some (seal_ s) := by
  unfold frame_sealed.f
  have h4 := tail4_size s
  unfold tail4 four at h4
  rw [Sum_eq k s hs hk, Option.bind_some, Option.bind_some, if_pos (by rw [h4]; omega)]; rfl
/-- a frame -/
def fr (p : ByteArray) : ByteArray := seal_ (text p)
theorem text_size (p : ByteArray) : (text p).size = (num p.size).size + p.size := by unfold text; rw [ByteArray.size_append]
theorem fr_size (p : ByteArray) : (fr p).size = (num p.size).size + p.size + 4 := by unfold fr; rw [seal_size, text_size]
theorem Lay_eq (k : Nat) (p : ByteArray) (hp : p.size ≤ 4096) (hk : 5000 ≤ k) : frame_Lay.f k p = some (fr p, 0) := by
  unfold frame_Lay.f
  have := num_size_bd p.size
  have h2 := text_size p
  rw [if_neg (by omega), Textf p (by omega), Option.bind_some, sealed_eq k _ (by omega) (by omega)]; rfl
theorem Lay_big (k : Nat) (p : ByteArray) (hp : 4096 < p.size) : frame_Lay.f k p = some (⟨#[]⟩, 1) := by
  unfold frame_Lay.f; rw [if_pos (by omega)]
/-- what is taken at a text's beginning -/
def take (s : ByteArray) : ByteArray × Int × Int :=
  if s.size = 0 then (⟨#[]⟩, 0, 30)
  else match dec 0 0 (bytesOf s) with
    | none => if s.size = 1 ∧ 128 ≤ bt s 0 then (⟨#[]⟩, 0, 30) else (⟨#[]⟩, 0, 31)
    | some (z, c) => if unzig z < 0 ∨ unzig z > 4096 then (⟨#[]⟩, 0, 31)
      else if (s.size : Int) - c < unzig z + 4 then (⟨#[]⟩, 0, 30)
      else if seal_ (s.extract 0 (c + (unzig z).toNat)) = s.extract 0 (c + (unzig z).toNat + 4) then (s.extract c (c + (unzig z).toNat), ((c + (unzig z).toNat + 4 : Nat) : Int), 0) else (⟨#[]⟩, 0, 31)
theorem bad_eq (s : ByteArray) (a : Int) (b : Bool) : varint_Reader_Bad.f s a b = some (b, s, a, b) := rfl
theorem empty_iff (s : ByteArray) : s.toList = [] ↔ s.size = 0 := by
  rw [toList_eq]
  constructor
  · intro h; have := congrArg List.length h; simpa using this
  · intro h; apply List.eq_nil_of_length_eq_zero; simpa using h
theorem dec_pos (l : List Int) (z : Int) (c : Nat) (h : dec 0 0 l = some (z, c)) : 1 ≤ c ∧ c ≤ 10 ∧ c ≤ l.length := by
  have h1 := dec_le _ _ _ _ _ h
  have hg : ∀ (l : List Int) (acc : Int) (i : Nat), i ≤ 10 → dec acc i l = some (z, c) → i < c ∧ c ≤ 10 := by
    intro l
    induction l with
    | nil => intro acc i hi h; simp [dec] at h
    | cons b l ih =>
      intro acc i hi h
      simp only [dec] at h
      split at h
      · cases h
      · split at h
        · cases h
        · split at h
          · split at h
            · cases h
            · simp at h; omega
          · have := ih _ _ (by omega) h; omega
  have := hg l 0 0 (by omega) h
  omega
theorem zig_bd2 (l : List Int) (hl : ∀ x ∈ l, 0 ≤ x ∧ x ≤ 255) : ∀ (acc : Int) (i : Nat) (z : Int) (c : Nat), 0 ≤ acc → acc < ((128 ^ i : Nat) : Int) → dec acc i l = some (z, c) → 0 ≤ z ∧ z < 18446744073709551616 := by
  induction l with
  | nil => intro acc i z c h0 h1 h; simp [dec] at h
  | cons b l ih =>
    intro acc i z c h0 h1 h
    have hb := hl b (by simp)
    have hp : (0 : Int) < ((128 ^ i : Nat) : Int) := by have := Nat.pow_pos (n := i) (show 0 < 128 by omega); omega
    have hq : ((128 ^ i : Nat) : Int) = 128 ^ i := by simp
    simp only [dec] at h
    split at h
    · cases h
    · rename_i hi
      split at h
      · cases h
      · rename_i h9
        split at h
        · split at h
          · cases h
          · simp only [Option.some.injEq, Prod.mk.injEq] at h
            obtain ⟨rfl, _⟩ := h
            rw [← hq]
            by_cases h9' : i = 9
            · subst h9'
              have e0 : ((128 ^ 9 : Nat) : Int) = 9223372036854775808 := by decide
              rw [e0] at h1 ⊢
              omega
            · have e1 : 128 ^ i ≤ 128 ^ 8 := Nat.pow_le_pow_right (by omega) (by omega)
              have e2 : (128 ^ 8 : Nat) = 72057594037927936 := by decide
              have e1' : ((128 ^ i : Nat) : Int) ≤ 72057594037927936 := by rw [e2] at e1; exact Int.ofNat_le.2 e1
              clear e1 e2 hq
              generalize ((128 ^ i : Nat) : Int) = p at *
              have e3 : b * p ≤ 127 * p := Int.mul_le_mul_of_nonneg_right (by omega) (by omega)
              have e4 : 0 ≤ b * p := Int.mul_nonneg (by omega) (by omega)
              omega
        · refine ih (fun x hx => hl x (by simp [hx])) _ _ _ _ ?_ ?_ h
          · have := Int.mul_nonneg (show 0 ≤ b - 128 by omega) (show 0 ≤ (128 : Int) ^ i by omega)
            omega
          · rw [Nat.pow_succ, Int.natCast_mul, ← hq]
            generalize ((128 ^ i : Nat) : Int) = p at *
            have e3 : (b - 128) * p ≤ 127 * p := Int.mul_le_mul_of_nonneg_right (by omega) (by omega)
            have : p * ((128 : Nat) : Int) = 128 * p := by rw [Int.mul_comm]; rfl
            omega
theorem bytes_range (s : ByteArray) : ∀ x ∈ bytesOf s, 0 ≤ x ∧ x ≤ 255 := by
  intro x hx
  unfold bytesOf at hx
  obtain ⟨b, _, rfl⟩ := List.mem_map.1 hx
  have := b.toNat_lt
  omega
theorem zig_bd3 (s : ByteArray) (a : Nat) (z : Int) (c : Nat) (h : dec 0 0 ((bytesOf s).drop a) = some (z, c)) : 0 ≤ z ∧ z < 18446744073709551616 :=
  zig_bd2 _ (fun x hx => bytes_range s x (List.mem_of_mem_drop hx)) 0 0 z c (by omega) (by simp) h
theorem unzig_bd (z : Int) (h0 : 0 ≤ z) (h1 : z < 18446744073709551616) : -9223372036854775808 ≤ unzig z ∧ unzig z ≤ 9223372036854775807 := by
  unfold unzig; split <;> omega
theorem ne_true (x : Bool) (h : x = false) : ¬ x = true := by simp [h]
/-- the last part of Take -/
theorem take_j1 (k : Nat) (hk : 5000 ≤ k) (s : ByteArray) (hs : s.size ≤ 4611686018427387904) (z : Int) (c : Nat) (hc : c ≤ 10) (hcs : c ≤ s.size) (hz : -9223372036854775808 ≤ unzig z ∧ unzig z ≤ 9223372036854775807) :
    frame_Take.j1 k s 31 (unzig z) c (decide (0 ≤ unzig z ∧ unzig z ≤ 4096 ∧ (s.size : Int) - c < unzig z + 4)) s c false =
      some (if unzig z < 0 ∨ unzig z > 4096 then (⟨#[]⟩, 0, 31)
      else if (s.size : Int) - c < unzig z + 4 then (⟨#[]⟩, 0, 30)
      else if seal_ (s.extract 0 (c + (unzig z).toNat)) = s.extract 0 (c + (unzig z).toNat + 4) then (s.extract c (c + (unzig z).toNat), ((c + (unzig z).toNat + 4 : Nat) : Int), 0) else (⟨#[]⟩, 0, 31)) := by
  obtain ⟨k, rfl⟩ : ∃ m, k = m + 1 := ⟨k - 1, by omega⟩
  simp only [frame_Take.j1]
  generalize unzig z = n at *
  by_cases h0 : n < 0 ∨ n > 4096
  · rw [if_pos h0, if_neg (by simp; omega), bad_eq, Option.bind_some]
    dsimp only
    rw [if_neg (by simp)]
    by_cases h1 : n < 0
    · rw [if_pos h1]
    · rw [if_neg h1, if_pos (by omega)]
  · rw [if_neg h0]
    obtain ⟨m, rfl⟩ := Int.eq_ofNat_of_zero_le (show 0 ≤ n by omega)
    rw [Int.toNat_natCast]
    by_cases h1 : (s.size : Int) - c < m + 4
    · rw [if_pos h1, if_pos (by simp; omega)]
    · rw [if_neg h1, if_neg (by simp; omega), bad_eq, Option.bind_some]
      dsimp only
      rw [if_neg (by simp), if_neg (by omega), if_neg (by omega), wrap_in ((c : Int) + m) (by omega) (by omega), wrap_in ((c : Int) + m + 4) (by omega) (by omega), if_pos (by omega), if_pos (by omega),
        show (c : Int) + m = ((c + m : Nat) : Int) by omega, show ((c + m : Nat) : Int) + 4 = ((c + m + 4 : Nat) : Int) by omega, Int.toNat_natCast, Int.toNat_natCast, Int.toNat_natCast,
        sealed_eq k _ (by rw [ByteArray.size_extract]; omega) (by rw [ByteArray.size_extract]; omega), Option.bind_some, if_pos (by omega), if_pos (by omega)]
      by_cases h2 : seal_ (s.extract 0 (c + m)) = s.extract 0 (c + m + 4)
      · rw [if_pos ((toList_iff _ _).2 h2), if_pos h2, if_pos (by omega), if_pos (by omega)]
      · rw [if_neg (fun h => h2 ((toList_iff _ _).1 h)), if_neg h2]
theorem take_j0 (k : Nat) (hk : 5001 ≤ k) (s : ByteArray) (hs : s.size ≤ 4611686018427387904) (z : Int) (c : Nat) (hc : c ≤ 10) (hcs : c ≤ s.size) (hz : -9223372036854775808 ≤ unzig z ∧ unzig z ≤ 9223372036854775807) :
    frame_Take.j0 k s 31 (unzig z) c false s c false =
      some (if unzig z < 0 ∨ unzig z > 4096 then (⟨#[]⟩, 0, 31)
      else if (s.size : Int) - c < unzig z + 4 then (⟨#[]⟩, 0, 30)
      else if seal_ (s.extract 0 (c + (unzig z).toNat)) = s.extract 0 (c + (unzig z).toNat + 4) then (s.extract c (c + (unzig z).toNat), ((c + (unzig z).toNat + 4 : Nat) : Int), 0) else (⟨#[]⟩, 0, 31)) := by
  obtain ⟨k, rfl⟩ : ∃ m, k = m + 1 := ⟨k - 1, by omega⟩
  have hj := take_j1 k (by omega) s hs z c hc hcs hz
  rw [← hj]
  simp only [frame_Take.j0]
  rw [if_neg (by simp), bad_eq, Option.bind_some]
  dsimp only
  rw [if_neg (by simp)]
  by_cases h1 : unzig z ≥ 0
  · rw [if_pos h1]
    by_cases h2 : unzig z ≤ 4096
    · rw [if_pos h2, left_eq s c false hcs hs, Option.bind_some]
      dsimp only
      rw [wrap_in (unzig z + 4) (by omega) (by omega)]
      congr 1
      exact decide_eq_decide.2 (by omega)
    · rw [if_neg h2]; congr 1; exact (decide_eq_false (by omega)).symm
  · rw [if_neg h1]; congr 1; exact (decide_eq_false (by omega)).symm
theorem bad_j0 (k : Nat) (hk : 5 ≤ k) (s : ByteArray) (b : Bool) (n h : Int) : frame_Take.j0 k s 31 n h b s 0 true = some (if b = true then (⟨#[]⟩, 0, 30) else (⟨#[]⟩, 0, 31)) := by
  obtain ⟨k, rfl⟩ : ∃ m, k = m + 2 := ⟨k - 2, by omega⟩
  simp only [frame_Take.j0]
  cases b
  · rw [if_neg (by simp), bad_eq, Option.bind_some]
    dsimp only
    rw [if_pos rfl]
    simp only [frame_Take.j1]
    rw [if_neg (by simp), bad_eq, Option.bind_some]
    dsimp only
    rw [if_pos rfl, if_neg (by simp)]
  · rw [if_pos rfl, if_pos rfl]
theorem Take_eq (k : Nat) (hk : 6000 ≤ k) (s : ByteArray) (hs : s.size ≤ 4611686018427387904) : frame_Take.f k s = some (take s) := by
  unfold frame_Take.f
  rw [show varint_New.f s = some (s, 0, false) from rfl, Option.bind_some]
  dsimp only
  have hN := Num_good s hs 0 (by omega) k (by omega)
  rw [show ((0 : Nat) : Int) = 0 from rfl] at hN
  rw [hN, List.drop_zero]
  by_cases h0 : s.size = 0
  · rw [show out s 0 (dec 0 0 (bytesOf s)) = (0, s, 0, true) by rw [List.eq_nil_of_length_eq_zero (show (bytesOf s).length = 0 by rw [bytesOf_length]; exact h0)]; rfl, Option.bind_some]
    dsimp only
    have hl := left_eq s 0 true (by omega) hs
    rw [show ((0 : Nat) : Int) = 0 from rfl] at hl
    rw [hl, Option.bind_some]
    dsimp only
    rw [if_pos ((empty_iff s).2 h0)]
    unfold take; rw [if_pos h0]
  · have hne : ¬ s.toList = [] := fun h => h0 ((empty_iff s).1 h)
    unfold take; rw [if_neg h0]
    cases hd : dec 0 0 (bytesOf s) with
    | none =>
      rw [show out s 0 none = (0, s, ((0 : Nat) : Int), true) from rfl, Option.bind_some]
      dsimp only
      rw [left_eq s 0 true (by omega) hs, Option.bind_some]
      dsimp only
      rw [if_neg hne]
      by_cases h1 : s.size = 1
      · rw [if_pos (by omega), bad_eq, Option.bind_some]
        dsimp only
        rw [if_pos rfl, if_pos (by omega), show ((0 : Nat) : Int) = 0 from rfl, bad_j0 k (by omega)]
        congr 1
        by_cases h2 : 128 ≤ bt s 0
        · rw [if_pos (by simp; omega), if_pos ⟨h1, h2⟩]
        · rw [if_neg (by simp; omega), if_neg (by omega)]
      · rw [if_neg (by omega), show ((0 : Nat) : Int) = 0 from rfl, bad_j0 k (by omega), if_neg (by simp), if_neg (by omega)]
    | some p =>
      obtain ⟨z, c⟩ := p
      have hp := dec_pos _ _ _ hd
      rw [bytesOf_length] at hp
      have hz := zig_bd3 s 0 z c (by rw [List.drop_zero]; exact hd)
      have hu := unzig_bd z hz.1 hz.2
      rw [show out s 0 (some (z, c)) = (unzig z, s, ((0 + c : Nat) : Int), false) from rfl, Nat.zero_add, Option.bind_some]
      dsimp only
      rw [left_eq s c false (by omega) hs, Option.bind_some]
      dsimp only
      rw [if_neg hne, wrap_in _ (by omega) (by omega), show (s.size : Int) - ((s.size : Int) - c) = c by omega]
      have hj := take_j0 k (by omega) s hs z c (by omega) (by omega) hu
      by_cases h1 : s.size = 1
      · rw [if_pos (by omega), bad_eq, Option.bind_some]
        dsimp only
        rw [if_neg (by simp)]
        exact hj
      · rw [if_neg (by omega)]
        exact hj
end Go.Proofs.YtdgaancbeakfdaaDoor.Fth
