/- The plain theory of the numbers' bytes: what is laid is read back; none begins another one. -/
import Derived.Test.YtdgaancbeakfdaaDoorNum
namespace Go.Proofs.YtdgaancbeakfdaaDoor.Vth
open Go.RowKit Go.Proofs.YtdgaancbeakfdaaDoorW.PrintWords Go.Proofs.YtdgaancbeakfdaaDoor.Num
/-! ### lists of bytes -/
theorem bytes_of_nums (l : List Int) (h : ∀ x ∈ l, 0 ≤ x ∧ x ≤ 255) : bytesOf (strOfNums l) = l := by
  unfold bytesOf
  rw [strOfNums_data, List.map_map]
  conv => rhs; rw [← List.map_id l]
  refine List.map_congr_left fun x hx => ?_
  have := h x hx
  simp [UInt8.toNat_ofNat']
  omega
theorem bytes_append (s t : ByteArray) : bytesOf (s ++ t) = bytesOf s ++ bytesOf t := by
  unfold bytesOf; simp
theorem bytes_inj {s t : ByteArray} (h : bytesOf s = bytesOf t) : s = t := by
  have h2 : s.data.toList = t.data.toList := by
    exact (List.map_inj_right (fun a b hab => UInt8.toNat_inj.1 (Int.ofNat.inj hab))).1 h
  have h3 : s.data = t.data := Array.toList_inj.1 h2
  cases s; cases t; simp at h3; rw [h3]
theorem toList_eq (s : ByteArray) : s.toList = s.data.toList := Go.ByteArray.toList_eq s
theorem toList_iff (s t : ByteArray) : s.toList = t.toList ↔ s = t := by
  rw [toList_eq, toList_eq, Array.toList_inj]
  constructor
  · intro h; cases s; cases t; simp at h; rw [h]
  · intro h; rw [h]
theorem drop_step (s : ByteArray) (i : Nat) (h : i < s.size) : (bytesOf s).drop i = bt s i :: (bytesOf s).drop (i + 1) := by
  have hl : i < (bytesOf s).length := by rw [bytesOf_length]; exact h
  rw [List.drop_eq_getElem_cons hl]
  congr 1
  rw [← rd_bytesOf]; simp [rd, List.getD_eq_getElem?_getD, List.getElem?_eq_getElem hl]
/-! ### taking a number up -/
/-- the zigzag value that stands ahead, and how many bytes it has with the i ones behind us -/
def dec (acc : Int) (i : Nat) : List Int → Option (Int × Nat)
  | [] => none
  | b :: l => if 10 ≤ i then none else if i = 9 ∧ b > 1 then none else if b < 128 then (if b = 0 ∧ 0 < i then none else some (acc + b * 128 ^ i, i + 1)) else dec (acc + (b - 128) * 128 ^ i) (i + 1) l
def unzig (z : Int) : Int := if z % 2 = 0 then z / 2 else -(z / 2) - 1
theorem unzig_zig (x : Int) : unzig (zig x) = x := by unfold unzig zig; split <;> split <;> omega
theorem digs_ne (k : Nat) (u : Int) : digs k u ≠ [] := by
  cases k with
  | zero => simp [digs]
  | succ k => simp only [digs]; split <;> simp
theorem digs_bytes (k : Nat) : ∀ u, 0 ≤ u → ∀ x ∈ digs k u, 0 ≤ x ∧ x ≤ 255 := by
  induction k with
  | zero => intro u hu x hx; simp [digs] at hx; omega
  | succ k ih =>
    intro u hu x hx
    simp only [digs] at hx
    split at hx
    · rcases List.mem_cons.1 hx with rfl | hx
      · omega
      · exact ih _ (by omega) x hx
    · simp at hx; omega
theorem dec_digs (k : Nat) : ∀ (u acc : Int) (i : Nat) (rest : List Int), k + i = 9 → 0 ≤ u → u < ((2 ^ (7 * k + 1) : Nat) : Int) → (0 < i → u ≠ 0) →
    dec acc i (digs k u ++ rest) = some (acc + u * 128 ^ i, i + (digs k u).length) := by
  induction k with
  | zero =>
    intro u acc i rest hk h0 h1 hi
    have h2 : u < 2 := by simpa using h1
    have hu : u % 256 = u := by omega
    simp only [digs, List.cons_append, List.nil_append, dec, List.length_cons, List.length_nil]
    have := hi (by omega)
    rw [if_neg (by omega), if_neg (by omega), if_pos (by omega), if_neg (by omega), hu]
  | succ k ih =>
    intro u acc i rest hk h0 h1 hi
    simp only [digs]
    by_cases h : 128 ≤ u
    · rw [if_pos h]
      simp only [List.cons_append, dec, List.length_cons]
      rw [if_neg (by omega), if_neg (by omega), if_neg (by omega), ih (u / 128) _ (i + 1) rest (by omega) (by omega) ?_ (by omega)]
      · congr 2
        · rw [show u % 128 + 128 - 128 = u % 128 by omega, Int.pow_succ]
          have hu : u = u % 128 + 128 * (u / 128) := by omega
          generalize (128 : Int) ^ i = p at *
          generalize u / 128 = q at *
          generalize u % 128 = r at *
          subst hu
          grind
        · omega
      · rw [show 7 * (k + 1) + 1 = (7 * k + 1) + 7 by omega, Nat.pow_add] at h1
        omega
    · rw [if_neg h]
      have hu : u % 256 = u := by omega
      simp only [List.cons_append, List.nil_append, dec, List.length_cons, List.length_nil]
      rw [if_neg (by omega), if_neg (by omega), if_pos (by omega), if_neg (by rintro ⟨h2, h3⟩; exact hi h3 (by omega)), hu]
theorem num_bytes (x : Int) (h0 : -9223372036854775808 ≤ x) (h1 : x ≤ 9223372036854775807) : bytesOf (num x) = digs 9 (zig x) :=
  bytes_of_nums _ (digs_bytes 9 _ (zig_bd x h0 h1).1)
theorem num_size (x : Int) : (num x).size = (digs 9 (zig x)).length := strOfNums_size _
theorem num_size_bd (x : Int) : 1 ≤ (num x).size ∧ (num x).size ≤ 10 := by
  rw [num_size]
  have := digs_len 9 (zig x)
  have := List.length_pos_iff.2 (digs_ne 9 (zig x))
  omega
theorem dec_num (x : Int) (rest : List Int) (h0 : -9223372036854775808 ≤ x) (h1 : x ≤ 9223372036854775807) : dec 0 0 (bytesOf (num x) ++ rest) = some (zig x, (num x).size) := by
  have hz := zig_bd x h0 h1
  rw [num_bytes x h0 h1, dec_digs 9 (zig x) 0 0 rest rfl hz.1 (by simpa using hz.2) (by omega), num_size]
  simp
/-- a number whose bytes begin a text is told by the text -/
theorem num_told {x y : Int} {r t : List Int} (h : bytesOf (num x) ++ r = bytesOf (num y) ++ t) (x0 : -9223372036854775808 ≤ x) (x1 : x ≤ 9223372036854775807) (y0 : -9223372036854775808 ≤ y) (y1 : y ≤ 9223372036854775807) : x = y := by
  have a := dec_num x r x0 x1
  rw [h, dec_num y t y0 y1] at a
  have : zig y = zig x := by simpa using (congrArg Prod.fst (Option.some.inj a))
  rw [← unzig_zig x, ← unzig_zig y, this]
end Go.Proofs.YtdgaancbeakfdaaDoor.Vth
