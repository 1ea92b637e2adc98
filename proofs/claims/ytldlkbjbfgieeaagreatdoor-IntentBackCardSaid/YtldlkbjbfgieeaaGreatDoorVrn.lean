/- The plain theory of the numbers' bytes: what is laid is read back; none begins another one. -/
import Derived.Test.YtldlkbjbfgieeaaGreatDoorNum
import Derived.Test.YtldlkbjbfgieeaaGreatDoorQx124
import Derived.Test.YtldlkbjbfgieeaaGreatDoorQx125
import Derived.Test.YtldlkbjbfgieeaaGreatDoorQx78
import Derived.Test.YtldlkbjbfgieeaaGreatDoorQx121
import Derived.Laws.BitsLemmas
namespace Go.Proofs.YtldlkbjbfgieeaaGreatDoor.Vth
open Go.RowKit Go.Proofs.YtldlkbjbfgieeaaGreatDoorW.PrintWords Go.Proofs.YtldlkbjbfgieeaaGreatDoor.Num
/-! ### lists of bytes -/
theorem bytes_of_nums (l : List Int) (h : ∀ x ∈ l, 0 ≤ x ∧ x ≤ 255) : bytesOf (strOfNums l) = l := by
 unfold bytesOf
 rw [strOfNums_data, List.map_map]
 conv => rhs; rw [← List.map_id l]
 refine List.map_congr_left fun x hx => ?_
 have := h x hx
 simp [UInt8.toNat_ofNat']
 omega
theorem bytes_append (s t : ByteArray) : bytesOf (s ++ t) = bytesOf s ++ bytesOf t := by
 unfold bytesOf; simp
theorem bytes_inj {s t : ByteArray} (h : bytesOf s = bytesOf t) : s = t := by
 have h2 : s.data.toList = t.data.toList := by
  exact (List.map_inj_right (fun a b hab => UInt8.toNat_inj.1 (Int.ofNat.inj hab))).1 h
 have h3 : s.data = t.data := Array.toList_inj.1 h2
 cases s; cases t; simp at h3; rw [h3]
theorem toList_eq (s : ByteArray) : s.toList = s.data.toList := Go.ByteArray.toList_eq s
theorem drop_step (s : ByteArray) (i : Nat) (h : i < s.size) : (bytesOf s).drop i = bt s i :: (bytesOf s).drop (i + 1) := by
 have hl : i < (bytesOf s).length := by rw [bytesOf_length]; exact h
 rw [List.drop_eq_getElem_cons hl]
 congr 1
 rw [← rd_bytesOf]; simp [rd, List.getD_eq_getElem?_getD, List.getElem?_eq_getElem hl]
/-! ### taking a number up -/
/-- the zigzag value that stands ahead, and how many bytes it has with the i ones behind us -/
def dec (acc : Int) (i : Nat) : List Int → Option (Int × Nat)
 | [] => none
 | b :: l => if 10 ≤ i then none else if i = 9 ∧ b > 1 then none else if b < 128 then (if b = 0 ∧ 0 < i then none else some (acc + b * 128 ^ i, i + 1)) else dec (acc + (b - 128) * 128 ^ i) (i + 1) l
def unzig (z : Int) : Int := if z % 2 = 0 then z / 2 else -(z / 2) - 1
theorem unzig_zig (x : Int) : unzig (zig x) = x := by unfold unzig zig; split <;> split <;> omega
theorem digs_ne (k : Nat) (u : Int) : digs k u ≠ [] := by
 cases k with
 | zero => simp [digs]
 | succ k => simp only [digs]; split <;> simp
theorem digs_bytes (k : Nat) : ∀ u, 0 ≤ u → ∀ x ∈ digs k u, 0 ≤ x ∧ x ≤ 255 := by
 induction k with
 | zero => intro u hu x hx; simp [digs] at hx; omega
 | succ k ih =>
  intro u hu x hx
  simp only [digs] at hx
  split at hx
  ·rcases List.mem_cons.1 hx with rfl | hx
   ·omega
   ·exact ih _ (by omega) x hx
  ·simp at hx; omega
theorem dec_digs (k : Nat) : ∀ (u acc : Int) (i : Nat) (rest : List Int), k + i = 9 → 0 ≤ u → u < ((2 ^ (7 * k + 1) : Nat) : Int) → (0 < i → u ≠ 0) →
 dec acc i (digs k u ++ rest) = some (acc + u * 128 ^ i, i + (digs k u).length) := by
 induction k with
 | zero =>
  intro u acc i rest hk h0 h1 hi
  have h2 : u < 2 := by simpa using h1
  have hu : u % 256 = u := by omega
  simp only [digs, List.cons_append, List.nil_append, dec, List.length_cons, List.length_nil]
  have := hi (by omega)
  rw [if_neg (by omega), if_neg (by omega), if_pos (by omega), if_neg (by omega), hu]
 | succ k ih =>
  intro u acc i rest hk h0 h1 hi
  simp only [digs]
  by_cases h : 128 ≤ u
  ·rw [if_pos h]
   simp only [List.cons_append, dec, List.length_cons]
   rw [if_neg (by omega), if_neg (by omega), if_neg (by omega), ih (u / 128) _ (i + 1) rest (by omega) (by omega) ?_ (by omega)]
   ·congr 2
    ·rw [show u % 128 + 128 - 128 = u % 128 by omega, Int.pow_succ]
     have hu : u = u % 128 + 128 * (u / 128) := by omega
     generalize (128 : Int) ^ i = p at *
     generalize u / 128 = q at *
     generalize u % 128 = r at *
     subst hu
     grind
    ·omega
   ·rw [show 7 * (k + 1) + 1 = (7 * k + 1) + 7 by omega, Nat.pow_add] at h1
    omega
  ·rw [if_neg h]
   have hu : u % 256 = u := by omega
   simp only [List.cons_append, List.nil_append, dec, List.length_cons, List.length_nil]
   rw [if_neg (by omega), if_neg (by omega), if_pos (by omega), if_neg (by rintro ⟨h2, h3⟩; exact hi h3 (by omega)), hu]
theorem num_bytes (x : Int) (h0 : -9223372036854775808 ≤ x) (h1 : x ≤ 9223372036854775807) : bytesOf (num x) = digs 9 (zig x) :=
 bytes_of_nums _ (digs_bytes 9 _ (zig_bd x h0 h1).1)
theorem num_size (x : Int) : (num x).size = (digs 9 (zig x)).length := strOfNums_size _
theorem num_size_bd (x : Int) : 1 ≤ (num x).size ∧ (num x).size ≤ 10 := by
 rw [num_size]
 have := digs_len 9 (zig x)
 have := List.length_pos_iff.2 (digs_ne 9 (zig x))
 omega
theorem dec_num (x : Int) (rest : List Int) (h0 : -9223372036854775808 ≤ x) (h1 : x ≤ 9223372036854775807) : dec 0 0 (bytesOf (num x) ++ rest) = some (zig x, (num x).size) := by
 have hz := zig_bd x h0 h1
 rw [num_bytes x h0 h1, dec_digs 9 (zig x) 0 0 rest rfl hz.1 (by simpa using hz.2) (by omega), num_size]
 simp
/-- a number whose bytes begin a text is told by the text -/
theorem num_told {x y : Int} {r t : List Int} (h : bytesOf (num x) ++ r = bytesOf (num y) ++ t) (x0 : -9223372036854775808 ≤ x) (x1 : x ≤ 9223372036854775807) (y0 : -9223372036854775808 ≤ y) (y1 : y ≤ 9223372036854775807) : x = y := by
 have a := dec_num x r x0 x1
 rw [h, dec_num y t y0 y1] at a
 have : zig y = zig x := by simpa using (congrArg Prod.fst (Option.some.inj a))
 rw [← unzig_zig x, ← unzig_zig y, this]
end Go.Proofs.YtldlkbjbfgieeaaGreatDoor.Vth
namespace Go.Proofs.YtldlkbjbfgieeaaGreatDoor.Vrd
open Go.RowKit Go.Proofs.YtldlkbjbfgieeaaGreatDoorW.PrintWords Go.Proofs.YtldlkbjbfgieeaaGreatDoorW.PrintLast Mo Go.Proofs.YtldlkbjbfgieeaaGreatDoor.Num Vth Giv Q
/-! ### the reader's arithmetic -/
theorem wrap_in (a : Int) (h1 : -9223372036854775808 ≤ a) (h2 : a ≤ 9223372036854775807) : wrap64 a = a := by
 unfold wrap64; omega
theorem wraps_u64 (n : Int) (h₀ : 0 ≤ n) (h₁ : n < 2 ^ 64) : IntKind.u64.wrap n = n := by rw [wrap_u64]; omega
theorem or64 (a b : Nat) (ha : a < 2 ^ 64) (hb : b < 2 ^ 64) : Go.bits .or .u64 (a : Int) (b : Int) = ((a ||| b : Nat) : Int) :=
 (bits_nat .u64 64 (by decide) wraps_u64 a b ha hb).2
theorem andnot (b : Int) (h0 : 0 ≤ b) (h1 : b < 256) : Go.bits .andNot .u8 b 128 = b % 128 := by
 have h : ∀ n : Nat, n < 256 → Go.bits .andNot .u8 (n : Int) 128 = (n : Int) % 128 := by decide +kernel
 obtain ⟨n, rfl⟩ := Int.eq_ofNat_of_zero_le h0
 exact h n (by omega)
theorem pow7 (i : Nat) : (2 : Nat) ^ (7 * i) = 128 ^ i := by rw [Nat.pow_mul]
theorem val_eq (u b : Int) (i : Nat) (hi : i ≤ 9) (hu0 : 0 ≤ u) (hu : u < ((128 ^ i : Nat) : Int)) (hb0 : 0 ≤ b) (hb : b < 256) (h9 : i = 9 → b ≤ 1) :
 Go.bits .or .u64 u (shl .u64 (IntKind.u64.wrap (Go.bits .andNot .u8 b 128)) (wrap64 (7 * (i : Int)))) = u + b % 128 * ((128 ^ i : Nat) : Int) := by
 rw [andnot b hb0 hb, wraps_u64 (b % 128) (by omega) (by omega), wrap_in _ (by omega) (by omega)]
 obtain ⟨a, rfl⟩ := Int.eq_ofNat_of_zero_le hu0
 obtain ⟨c, hc⟩ := Int.eq_ofNat_of_zero_le (show 0 ≤ b % 128 by omega)
 rw [hc]
 have hp : 2 ^ (7 * i) ≤ 2 ^ 63 := Nat.pow_le_pow_right (by omega) (by omega)
 have hcb : c * 2 ^ (7 * i) < 2 ^ 64 := by
  by_cases h : i = 9
  ·have := h9 h
   subst h
   have : c ≤ 1 := by omega
   calc c * 2 ^ (7 * 9) ≤ 1 * 2 ^ (7 * 9) := Nat.mul_le_mul_right _ this
    _ < 2 ^ 64 := by decide
  ·have h8 : 2 ^ (7 * i) ≤ 2 ^ 56 := Nat.pow_le_pow_right (by omega) (by omega)
   calc c * 2 ^ (7 * i) ≤ 127 * 2 ^ 56 := Nat.mul_le_mul (by omega) h8
    _ < 2 ^ 64 := by decide
 have ha : a < 2 ^ (7 * i) := by rw [pow7]; omega
 unfold shl
 rw [show (7 * (i : Int)).toNat = 7 * i by omega, show IntKind.u64.bits = 64 from rfl, Nat.min_eq_left (by omega : 7 * i ≤ 64), show (c : Int) * 2 ^ (7 * i) = ((c * 2 ^ (7 * i) : Nat) : Int) by simp,
  wraps_u64 _ (by omega) (by omega), or64 a _ (by omega) hcb, Nat.or_comm, Nat.mul_comm, ← Nat.two_pow_add_eq_or_of_lt ha, ← pow7]
 simp only [Int.natCast_add, Int.natCast_mul]
 rw [Int.mul_comm, Int.add_comm]
theorem xor_m1 (a : Int) (h0 : 0 ≤ a) (h1 : a ≤ 9223372036854775807) : Go.bits .xor .i64 a (-1) = -a - 1 := by
 obtain ⟨n, rfl⟩ := Int.eq_ofNat_of_zero_le h0
 have hn : n % 2 ^ IntKind.i64.bits = n := Nat.mod_eq_of_lt (by have : (2 : Nat) ^ IntKind.i64.bits = 18446744073709551616 := rfl; omega)
 have ho : (BitVec.ofInt IntKind.i64.bits (-1)).toNat = 2 ^ 64 - 1 := by decide
 simp only [Go.bits, BitVec.ofInt_natCast, BitVec.toNat_xor, BitVec.toNat_ofNat, hn, ho]
 rw [xor_ones n (by omega), IntKind.wrap_i64]
 omega
theorem xor_0 (a : Int) (h0 : 0 ≤ a) (h1 : a ≤ 9223372036854775807) : Go.bits .xor .i64 a 0 = a := by
 obtain ⟨n, rfl⟩ := Int.eq_ofNat_of_zero_le h0
 have hn : n % 2 ^ IntKind.i64.bits = n := Nat.mod_eq_of_lt (by have : (2 : Nat) ^ IntKind.i64.bits = 18446744073709551616 := rfl; omega)
 have ho : (BitVec.ofInt IntKind.i64.bits 0).toNat = 0 := by decide
 simp only [Go.bits, BitVec.ofInt_natCast, BitVec.toNat_xor, BitVec.toNat_ofNat, hn, ho, Nat.xor_zero]
 rw [IntKind.wrap_i64]
 omega
theorem unzig_eq (z : Int) (h0 : 0 ≤ z) (h1 : z < 18446744073709551616) : Go.bits .xor .i64 (wrap64 (z / 2)) (wrap64 (-(wrap64 (Go.bits .and .u64 z 1)))) = unzig z := by
 have hm : Go.bits .and .u64 z 1 = z % 2 := bits_mask .u64 64 (by decide) wraps_u64 1 (by omega) z h0 (by omega)
 rw [hm, wrap_in (z % 2) (by omega) (by omega), wrap_in (-(z % 2)) (by omega) (by omega), wrap_in (z / 2) (by omega) (by omega)]
 unfold unzig
 by_cases h : z % 2 = 0
 ·rw [if_pos h, h, show -(0 : Int) = 0 from rfl, xor_0 _ (by omega) (by omega)]
 ·rw [if_neg h, show z % 2 = 1 by omega, xor_m1 _ (by omega) (by omega)]
/-! ### Num of a reader -/
/-- what a number taken up comes to: the value, the text, the place, is it bad -/
def out (s : ByteArray) (at_ : Nat) : Option (Int × Nat) → Int × ByteArray × Int × Bool
 | none => (0, s, at_, true)
 | some (z, c) => (unzig z, s, ((at_ + c : Nat) : Int), false)
theorem spoil_eq (s : ByteArray) (a : Int) (b : Bool) : varint_Reader_spoil.f s a b = some (s, a, true) := rfl
theorem left_eq (s : ByteArray) (a : Nat) (b : Bool) (h : a ≤ s.size) (hs : s.size ≤ 4611686018427387904) : varint_Reader_Left.f s a b = some ((s.size : Int) - a, s, (a : Int), b) := by
 unfold varint_Reader_Left.f; rw [wrap_in _ (by omega) (by omega)]
theorem num_l0 (s : ByteArray) (hs : s.size ≤ 4611686018427387904) (a : Nat) (ha : a ≤ s.size) (d : Nat) : ∀ (k : Nat) (u : Int) (i : Nat), i + d = 10 → 3 * d + 3 < k → 0 ≤ u → u < ((128 ^ i : Nat) : Int) →
 varint_Reader_Num.l0 k u i s a false = some (out s a (dec u i ((bytesOf s).drop (a + i)))) := by
 induction d with
 | zero =>
  intro k u i hd hk h0 h1
  obtain ⟨k, rfl⟩ : ∃ m, k = m + 2 := ⟨k - 2, by omega⟩
  have hdec : dec u i ((bytesOf s).drop (a + i)) = none := by
   cases h : (bytesOf s).drop (a + i) with
   | nil => rfl
   | cons b l => simp only [dec]; rw [if_pos (by omega)]
  rw [hdec]
  simp only [varint_Reader_Num.l0]
  rw [if_neg (by simp), left_eq s a false ha hs, Option.bind_some]
  dsimp only
  have h10 : decide ((i : Int) < 10) = false := by simp; omega
  split
  ·rw [h10]; simp only [varint_Reader_Num.j1]; rw [if_neg (by simp), spoil_eq]; rfl
  ·simp only [varint_Reader_Num.j1]; rw [if_neg (by simp), spoil_eq]; rfl
 | succ d ih =>
  intro k u i hd hk h0 h1
  obtain ⟨k, rfl⟩ : ∃ m, k = m + 3 := ⟨k - 3, by omega⟩
  simp only [varint_Reader_Num.l0]
  rw [if_neg (by simp), left_eq s a false ha hs, Option.bind_some]
  dsimp only
  have h10 : decide ((i : Int) < 10) = true := by simp; omega
  by_cases hlt : a + i < s.size
  ·have hb := bt_range s ((a + i : Nat) : Int)
   rw [if_pos (by omega), h10, drop_step s (a + i) hlt]
   simp only [varint_Reader_Num.j1]
   rw [if_pos trivial, wrap_in _ (by omega) (by omega), if_pos (by omega), if_pos (by omega), show (a : Int) + i = ((a + i : Nat) : Int) by omega]
   generalize bt s ((a + i : Nat) : Int) = b at *
   have hj : ∀ x : Bool, (x = true ↔ i = 9 ∧ b > 1) → varint_Reader_Num.j2 (k + 1) u i b x s a false = some (out s a (dec u i (b :: (bytesOf s).drop (a + i + 1)))) := by
    intro x hx
    simp only [varint_Reader_Num.j2, dec]
    rw [if_neg (show ¬ 10 ≤ i by omega)]
    by_cases h9 : i = 9 ∧ b > 1
    ·rw [if_pos (hx.2 h9), if_pos h9, spoil_eq]; rfl
    ·rw [if_neg (fun h => h9 (hx.1 h)), if_neg h9, wrap_in (7 * (i : Int)) (by omega) (by omega), if_pos (by omega)]
     have hv := val_eq u b i (by omega) h0 h1 (by omega) (by omega) (by omega)
     rw [wrap_in (7 * (i : Int)) (by omega) (by omega)] at hv
     rw [hv]
     have hq : ((128 ^ i : Nat) : Int) = 128 ^ i := by simp
     have hpow : (0 : Int) < ((128 ^ i : Nat) : Int) := by have := Nat.pow_pos (n := i) (show 0 < 128 by omega); omega
     have hbig : u + b % 128 * ((128 ^ i : Nat) : Int) < ((128 ^ (i + 1) : Nat) : Int) ∧ 0 ≤ u + b % 128 * ((128 ^ i : Nat) : Int) := by
      rw [Nat.pow_succ, Int.natCast_mul]
      generalize ((128 ^ i : Nat) : Int) = p at *
      have e1 : b % 128 * p ≤ 127 * p := Int.mul_le_mul_of_nonneg_right (by omega) (by omega)
      have e2 : 0 ≤ b % 128 * p := Int.mul_nonneg (by omega) (by omega)
      constructor
      ·have : p * ((128 : Nat) : Int) = 128 * p := by rw [Int.mul_comm]; rfl
       omega
      ·omega
     by_cases hb128 : b < 128
     ·rw [if_pos hb128, if_pos hb128]
      have hbm : b % 128 = b := by omega
      have hbig2 : u + b % 128 * ((128 ^ i : Nat) : Int) < 18446744073709551616 := by
         by_cases h9' : i = 9
         ·have hb1 : b ≤ 1 := by omega
          subst h9'
          rw [hbm]
          have e0 : ((128 ^ 9 : Nat) : Int) = 9223372036854775808 := by decide
          rw [e0] at h1 ⊢
          omega
         ·have : 128 ^ (i + 1) ≤ 128 ^ 9 := Nat.pow_le_pow_right (by omega) (by omega)
          have e0 : (128 ^ 9 : Nat) = 9223372036854775808 := by decide
          omega
      rw [unzig_eq _ hbig.2 hbig2, wrap_in ((i : Int) + 1) (by omega) (by omega), wrap_in _ (by omega) (by omega)]
      by_cases hb0 : b = 0
      ·rw [if_pos hb0]
       by_cases hi0 : 0 < i
       ·rw [if_pos (by omega), if_pos ⟨hb0, hi0⟩, spoil_eq]; rfl
       ·rw [if_neg (by omega), if_neg (by omega)]
        simp only [out, hbm, hq]
        congr 4
      ·rw [if_neg hb0, if_neg (by omega)]
       simp only [out, hbm, hq]
       congr 4
     ·rw [if_neg hb128, if_neg hb128, wrap_in ((i : Int) + 1) (by omega) (by omega), show (i : Int) + 1 = ((i + 1 : Nat) : Int) by omega, ih k _ (i + 1) (by omega) (by omega) hbig.2 hbig.1]
      rw [show b - 128 = b % 128 by omega, hq, Nat.add_assoc]
   by_cases h9 : (i : Int) = 9
   ·rw [if_pos h9]; exact hj _ (by simp; omega)
   ·rw [if_neg h9]; exact hj _ (by simp; omega)
  ·rw [if_neg (by omega), List.drop_of_length_le (by rw [bytesOf_length]; omega)]
   simp only [varint_Reader_Num.j1, dec]
   rw [if_neg (by simp), spoil_eq]; rfl
/-- Num of a good reader -/
theorem Num_good (s : ByteArray) (hs : s.size ≤ 4611686018427387904) (a : Nat) (ha : a ≤ s.size) (k : Nat) (hk : 40 ≤ k) : varint_Reader_Num.f k s a false = some (out s a (dec 0 0 ((bytesOf s).drop a))) := by
 unfold varint_Reader_Num.f
 have := num_l0 s hs a ha 10 k 0 0 rfl (by omega) (by omega) (by simp)
 simpa using this
theorem dec_le (l : List Int) : ∀ (acc : Int) (i : Nat) (z : Int) (c : Nat), dec acc i l = some (z, c) → c ≤ i + l.length := by
 induction l with
 | nil => intro acc i z c h; simp [dec] at h
 | cons b l ih =>
  intro acc i z c h
  simp only [dec] at h
  split at h
  ·cases h
  ·split at h
   ·cases h
   ·split at h
    ·split at h
     ·cases h
     ·simp at h; simp; omega
    ·have := ih _ _ _ _ h; simp; omega
/-- what a text taken up comes to -/
def tout (s : ByteArray) (a : Nat) (most : Int) : Option (Int × Nat) → ByteArray × ByteArray × Int × Bool
 | none => (⟨#[]⟩, s, a, true)
 | some (z, c) => if unzig z < 0 ∨ unzig z > most ∨ unzig z > (s.size : Int) - ((a + c : Nat) : Int) then (⟨#[]⟩, s, ((a + c : Nat) : Int), true)
   else (s.extract (a + c) (a + c + (unzig z).toNat), s, ((a + c : Nat) : Int) + unzig z, false)
theorem Text_good (s : ByteArray) (hs : s.size ≤ 4611686018427387904) (a : Nat) (ha : a ≤ s.size) (most : Int) (k : Nat) (hk : 40 ≤ k) :
 varint_Reader_Text.f k s a false most = some (tout s a most (dec 0 0 ((bytesOf s).drop a))) := by
 unfold varint_Reader_Text.f
 rw [Num_good s hs a ha k hk]
 cases hd : dec 0 0 ((bytesOf s).drop a) with
 | none =>
  rw [show out s a none = (0, s, (a : Int), true) from rfl, Option.bind_some]
  dsimp only
  rw [if_pos rfl, spoil_eq]; rfl
 | some p =>
  obtain ⟨z, c⟩ := p
  have hc := dec_le _ _ _ _ _ hd
  rw [List.length_drop, bytesOf_length] at hc
  rw [show out s a (some (z, c)) = (unzig z, s, ((a + c : Nat) : Int), false) from rfl, Option.bind_some]
  dsimp only [tout]
  rw [if_neg (show ¬ (false = true) by simp)]
  by_cases h1 : unzig z < 0
  ·rw [if_pos h1, if_pos (.inl h1), spoil_eq]; rfl
  ·rw [if_neg h1]
   by_cases h2 : unzig z > most
   ·rw [if_pos h2, if_pos (.inr (.inl h2)), spoil_eq]; rfl
   ·rw [if_neg h2, left_eq s (a + c) false (by omega) hs, Option.bind_some]
    dsimp only
    by_cases h3 : unzig z > (s.size : Int) - ((a + c : Nat) : Int)
    ·rw [if_pos h3, if_pos (.inr (.inr h3)), spoil_eq]; rfl
    ·rw [if_neg h3, wrap_in (((a + c : Nat) : Int) + unzig z) (by omega) (by omega), wrap_in _ (by omega) (by omega), if_pos (by omega), if_pos (by omega), if_pos (by omega), if_neg (show ¬ (unzig z < 0 ∨ unzig z > most ∨ unzig z > (s.size : Int) - ((a + c : Nat) : Int)) by omega)]
     congr 2
     congr 1 <;> omega
/-- a text as bytes -/
def text (s : ByteArray) : ByteArray := num s.size ++ s
/-- a number that stands at a place is taken up -/
theorem dec_at (s p q : ByteArray) (x : Int) (h0 : -9223372036854775808 ≤ x) (h1 : x ≤ 9223372036854775807) (h : s = p ++ num x ++ q) :
 dec 0 0 ((bytesOf s).drop p.size) = some (zig x, (num x).size) := by
 rw [h, bytes_append, bytes_append, List.append_assoc, ← bytesOf_length p, List.drop_left]
 exact dec_num x _ h0 h1
theorem Num_at (s p q : ByteArray) (x : Int) (hs : s.size ≤ 4611686018427387904) (h0 : -9223372036854775808 ≤ x) (h1 : x ≤ 9223372036854775807) (h : s = p ++ num x ++ q) (k : Nat) (hk : 40 ≤ k) :
 varint_Reader_Num.f k s p.size false = some (x, s, (((p ++ num x).size : Nat) : Int), false) := by
 have hz : s.size = p.size + (num x).size + q.size := by rw [h, ByteArray.size_append, ByteArray.size_append]
 rw [Num_good s hs p.size (by omega) k hk, dec_at s p q x h0 h1 h]
 simp only [out, unzig_zig, ByteArray.size_append]
theorem extract_mid (p t q : ByteArray) : (p ++ t ++ q).extract p.size (p.size + t.size) = t := by
 apply ByteArray.ext
 rw [ByteArray.data_extract, ByteArray.data_append, ByteArray.data_append]
 have hp : p.size = p.data.size := rfl
 have ht : t.size = t.data.size := rfl
 rw [hp, ht, Array.append_assoc]
 apply Array.toList_inj.1
 rw [Array.toList_extract, List.extract_eq_take_drop]
 simp
theorem Text_at (s p t q : ByteArray) (most : Int) (hs : s.size ≤ 4611686018427387904) (h : s = p ++ text t ++ q) (hm : (t.size : Int) ≤ most) (k : Nat) (hk : 40 ≤ k) :
 varint_Reader_Text.f k s p.size false most = some (t, s, (((p ++ text t).size : Nat) : Int), false) := by
 have hsz : s.size = p.size + (num t.size).size + t.size + q.size := by rw [h]; unfold text; simp only [ByteArray.size_append]; omega
 have h' : s = p ++ num t.size ++ (t ++ q) := by rw [h]; unfold text; simp only [ByteArray.append_assoc]
 rw [Text_good s hs p.size (by omega) most k hk, dec_at s p _ t.size (by omega) (by omega) h']
 simp only [tout, unzig_zig]
 rw [if_neg (by omega)]
 have he : s.extract (p.size + (num t.size).size) (p.size + (num t.size).size + ((t.size : Nat) : Int).toNat) = t := by
  rw [h', Int.toNat_natCast, ← ByteArray.size_append, ← ByteArray.append_assoc]
  exact extract_mid _ _ _
 rw [he]
 congr 3
 unfold text
 simp only [ByteArray.size_append]
 congr 1
 omega
end Go.Proofs.YtldlkbjbfgieeaaGreatDoor.Vrd
