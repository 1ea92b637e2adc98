/- The document's reader takes numbers up as the plain theory says; a number's bytes are its own. -/
import Derived.Test.YtdgaancbeakfdaaDoorVrn
import Derived.Test.YtdgaancbeakfdaaDoorQy7
import Derived.Test.YtdgaancbeakfdaaDoorQy9
import Derived.Test.YtdgaancbeakfdaaDoorQy9
namespace Go.Proofs.YtdgaancbeakfdaaDoor.Rrd
set_option linter.unusedVariables false
set_option linter.unusedSimpArgs false
open Go.RowKit Go.Proofs.YtdgaancbeakfdaaDoorW.PrintWords Go.Proofs.YtdgaancbeakfdaaDoorW.PrintLast Go.Proofs.YtdgaancbeakfdaaDoor.Mo Go.Proofs.YtdgaancbeakfdaaDoor.Num Go.Proofs.YtdgaancbeakfdaaDoor.Vth Go.Proofs.YtdgaancbeakfdaaDoor.Giv Go.Proofs.YtdgaancbeakfdaaDoor.Q Go.Proofs.YtdgaancbeakfdaaDoor.Vrd
theorem ref_l0 (j : Nat) : ∀ (k : Nat) (low rest : Int) (o : List Int), j + 1 < k → 0 ≤ low → low < 128 → 0 ≤ rest → low + 128 * rest < ((2 ^ (7 * j + 1) : Nat) : Int) → j ≤ 9 → o.length + j ≤ 20 →
    billetref01_Num.l0 k low rest o = some (strOfNums (o ++ digs j (low + 128 * rest))) := by
  induction j with
  | zero =>
    intro k low rest o hk h0 h1 h2 h3 _ ho
    obtain ⟨k, rfl⟩ : ∃ m, k = m + 1 := ⟨k - 1, by omega⟩
    have h4 : rest = 0 := by have : low + 128 * rest < 2 := by simpa using h3
                             omega
    subst h4
    simp only [billetref01_Num.l0]
    rw [if_neg (by omega), if_pos (by omega)]
    simp [digs]
  | succ j ih =>
    intro k low rest o hk h0 h1 h2 h3 hj ho
    obtain ⟨k, rfl⟩ : ∃ m, k = m + 1 := ⟨k - 1, by omega⟩
    simp only [billetref01_Num.l0]
    have hp : 2 ^ (7 * (j + 1) + 1) ≤ 2 ^ 64 := Nat.pow_le_pow_right (by omega) (by omega)
    have e64 : (2 : Nat) ^ 64 = 18446744073709551616 := by decide
    by_cases hr : rest > 0
    · rw [if_pos hr, if_pos (by omega), Int.tmod_eq_emod_of_nonneg h2, Int.tdiv_eq_ediv_of_nonneg h2, wrap_in (rest / 128) (by omega) (by omega), wrap_in (low + 128) (by omega) (by omega),
        ih k _ _ _ (by omega) (by omega) (by omega) (by omega) ?_ (by omega) (by simp; omega)]
      · rw [digs, if_pos (by omega), List.append_assoc]
        congr 3
        · simp only [List.singleton_append]
          congr 1
          · omega
          · congr 1; omega
      · rw [show 7 * (j + 1) + 1 = (7 * j + 1) + 7 by omega, Nat.pow_add] at h3
        omega
    · have h4 : rest = 0 := by omega
      subst h4
      rw [if_neg hr, if_pos (by omega), digs, if_neg (by omega)]
      simp
theorem ref_num (k : Nat) (hk : 40 ≤ k) (x : Int) (h0 : -9223372036854775808 ≤ x) (h1 : x ≤ 9223372036854775807) : billetref01_Num.f k x = some (num x) := by
  unfold billetref01_Num.f num
  obtain ⟨k, rfl⟩ : ∃ m, k = m + 1 := ⟨k - 1, by omega⟩
  have hz := zig_bd x h0 h1
  by_cases h : x ≥ 0
  · rw [if_pos h]
    simp only [billetref01_Num.j0]
    rw [Int.tmod_eq_emod_of_nonneg h, Int.tdiv_eq_ediv_of_nonneg h, wrap_in (x % 64 * 2) (by omega) (by omega), wrap_in (x / 64) (by omega) (by omega),
      ref_l0 9 k _ _ [] (by omega) (by omega) (by omega) (by omega) (by have : ((2 ^ (7 * 9 + 1) : Nat) : Int) = 18446744073709551616 := by decide
                                                                        rw [this]; omega) (by omega) (by simp)]
    rw [show x % 64 * 2 + 128 * (x / 64) = zig x by unfold zig; rw [if_pos h]; omega]; rfl
  · rw [if_neg h]
    simp only [billetref01_Num.j0]
    rw [wrap_in (x + 1) (by omega) (by omega), wrap_in (-(x + 1)) (by omega) (by omega), Int.tmod_eq_emod_of_nonneg (by omega), Int.tdiv_eq_ediv_of_nonneg (by omega), wrap_in (-(x + 1) % 64 * 2) (by omega) (by omega),
      wrap_in (-(x + 1) % 64 * 2 + 1) (by omega) (by omega), wrap_in (-(x + 1) / 64) (by omega) (by omega),
      ref_l0 9 k _ _ [] (by omega) (by omega) (by omega) (by omega) (by have : ((2 ^ (7 * 9 + 1) : Nat) : Int) = 18446744073709551616 := by decide
                                                                        rw [this]; omega) (by omega) (by simp)]
    rw [show -(x + 1) % 64 * 2 + 1 + 128 * (-(x + 1) / 64) = zig x by unfold zig; rw [if_neg (by omega)]; omega]; rfl
/-! ### a number's bytes, told otherwise -/
/-- how many bytes of 128 and more stand ahead -/
def fst : List Int → Nat
  | [] => 0
  | b :: l => if b < 128 then 0 else fst l + 1
def val : List Int → Int
  | [] => 0
  | b :: l => b % 128 + 128 * val l
theorem fst_le (l : List Int) : fst l ≤ l.length := by
  induction l with
  | nil => simp [fst]
  | cons b l ih => simp only [fst, List.length_cons]; split <;> omega
/-- when bytes are no number -/
def wrong (i : Nat) (l : List Int) : Prop := fst l = l.length ∨ 10 ≤ i + fst l ∨ (0 < i + fst l ∧ l.getD (fst l) 0 = 0) ∨ (i + fst l = 9 ∧ l.getD (fst l) 0 > 1)
instance (i : Nat) (l : List Int) : Decidable (wrong i l) := by unfold wrong; infer_instance
theorem dec_spec (l : List Int) : ∀ (acc : Int) (i : Nat), (∀ x ∈ l, 0 ≤ x ∧ x ≤ 255) → dec acc i l = if wrong i l then none else some (acc + 128 ^ i * val (l.take (fst l + 1)), i + fst l + 1) := by
  induction l with
  | nil => intro acc i _; rw [if_pos (by left; rfl)]; rfl
  | cons b l ih =>
    intro acc i hl
    have hb := hl b (by simp)
    simp only [dec]
    by_cases h10 : 10 ≤ i
    · rw [if_pos h10, if_pos (by right; left; omega)]
    · rw [if_neg h10]
      by_cases hb128 : b < 128
      · have hf : fst (b :: l) = 0 := by simp [fst, hb128]
        have hwr : wrong i (b :: l) ↔ (0 < i ∧ b = 0) ∨ (i = 9 ∧ b > 1) := by
          unfold wrong
          rw [hf, show (b :: l).getD 0 0 = b from rfl, List.length_cons]
          omega
        by_cases h9 : i = 9 ∧ b > 1
        · rw [if_pos h9, if_pos (hwr.2 (.inr h9))]
        · rw [if_neg h9, if_pos hb128]
          by_cases h0 : b = 0 ∧ 0 < i
          · rw [if_pos h0, if_pos (hwr.2 (.inl ⟨h0.2, h0.1⟩))]
          · rw [if_neg h0, if_neg (fun h => by have := hwr.1 h; omega), hf]
            simp only [Nat.zero_add, List.take_succ_cons, List.take_zero, val]
            rw [show b % 128 = b by omega]
            congr 2
            rw [Int.mul_zero, Int.add_zero, Int.mul_comm]
      · have hf : fst (b :: l) = fst l + 1 := by simp [fst, hb128]
        have hwr : wrong i (b :: l) ↔ wrong (i + 1) l := by
          unfold wrong
          rw [hf, List.length_cons, show (b :: l).getD (fst l + 1) 0 = l.getD (fst l) 0 from rfl]
          omega
        by_cases h9 : i = 9 ∧ b > 1
        · rw [if_pos h9, if_pos (hwr.2 (by right; left; omega))]
        · rw [if_neg h9, if_neg hb128, ih _ _ (fun x hx => hl x (by simp [hx]))]
          by_cases hw : wrong (i + 1) l
          · rw [if_pos hw, if_pos (hwr.2 hw)]
          · rw [if_neg hw, if_neg (fun h => hw (hwr.1 h)), hf]
            rw [show fst l + 1 + 1 = (fst l + 1) + 1 from rfl, List.take_succ_cons]
            simp only [val]
            congr 2
            · rw [Int.pow_succ, show b % 128 = b - 128 by omega]
              grind
            · omega
theorem val_nonneg (l : List Int) : 0 ≤ val l := by
  induction l with
  | nil => simp [val]
  | cons b l ih => simp only [val]; omega
theorem val_lt (l : List Int) : val l < ((128 ^ l.length : Nat) : Int) := by
  induction l with
  | nil => simp [val]
  | cons b l ih =>
    simp only [val, List.length_cons]
    rw [Nat.pow_succ, Int.natCast_mul]
    generalize ((128 ^ l.length : Nat) : Int) = p at *
    have : p * ((128 : Nat) : Int) = 128 * p := by rw [Int.mul_comm]; rfl
    omega
theorem val_snoc (l : List Int) (b : Int) : val (l ++ [b]) = val l + b % 128 * ((128 ^ l.length : Nat) : Int) := by
  induction l with
  | nil => simp [val]
  | cons a l ih =>
    simp only [List.cons_append, val, ih, List.length_cons]
    rw [Nat.pow_succ, Int.natCast_mul]
    generalize ((128 ^ l.length : Nat) : Int) = p at *
    generalize val l = v at *
    generalize b % 128 = c at *
    have : c * (p * ((128 : Nat) : Int)) = 128 * (c * p) := by
      rw [show ((128 : Nat) : Int) = 128 from rfl]; grind
    omega
theorem take_snoc (s : ByteArray) (i : Nat) (h : i < s.size) : (bytesOf s).take (i + 1) = (bytesOf s).take i ++ [bt s i] := by
  have hl : i < (bytesOf s).length := by rw [bytesOf_length]; exact h
  have hd := drop_step s i h
  rw [List.take_add_one, List.getElem?_eq_getElem hl]
  congr 1
  rw [List.drop_eq_getElem_cons hl] at hd
  injection hd with hd _
  rw [hd]; rfl
theorem val_take (s : ByteArray) (i : Nat) (h : i < s.size) : val ((bytesOf s).take (i + 1)) = val ((bytesOf s).take i) + bt s i % 128 * ((128 ^ i : Nat) : Int) := by
  rw [take_snoc s i h, val_snoc, List.length_take, bytesOf_length, Nat.min_eq_left (by omega)]
theorem tmod_pos' (a b : Int) (h : 0 ≤ a) : Int.tmod a b = a % b := Int.tmod_eq_emod_of_nonneg h
/-- what 'value' says -/
theorem value_l0 (s : ByteArray) (hs : s.size ≤ 10) (d : Nat) : ∀ (k i : Nat), i + d = s.size → 1 ≤ i → 2 * d + 2 ≤ k → (10 ≤ i → bt s 9 % 128 ≤ 1) →
    billetref01_value.l0 k s (val ((bytesOf s).take i) % 2) (val ((bytesOf s).take i) / 2) (if i ≤ 9 then ((64 * 128 ^ (i - 1) : Nat) : Int) else ((64 * 128 ^ 8 : Nat) : Int)) i =
      some (if s.size = 10 ∧ bt s 9 % 128 > 1 then (0, false) else (unzig (val (bytesOf s)), true)) := by
  induction d with
  | zero =>
    intro k i h1 h2 h3 h4
    obtain ⟨k, rfl⟩ : ∃ m, k = m + 1 := ⟨k - 1, by omega⟩
    simp only [billetref01_value.l0]
    rw [if_neg (by omega), List.take_of_length_le (by rw [bytesOf_length]; omega), if_neg (show ¬ (s.size = 10 ∧ bt s 9 % 128 > 1) by intro h; have := h4 (by omega); omega)]
    have hv0 := val_nonneg (bytesOf s)
    have hv1 : val (bytesOf s) < 18446744073709551616 := by
      have hlt := val_lt (bytesOf s)
      rw [bytesOf_length] at hlt
      by_cases h10 : s.size = 10
      · have hx := val_take s 9 (by omega)
        rw [List.take_of_length_le (by rw [bytesOf_length]; omega)] at hx
        have hy := val_lt ((bytesOf s).take 9)
        rw [List.length_take, bytesOf_length, h10, show min 9 10 = 9 from rfl] at hy
        have e0 : ((128 ^ 9 : Nat) : Int) = 9223372036854775808 := by decide
        rw [e0] at hx hy
        have := h4 (by omega)
        have := val_nonneg ((bytesOf s).take 9)
        rw [show ((9 : Nat) : Int) = 9 from rfl] at hx
        omega
      · have e1 : 128 ^ s.size ≤ 128 ^ 9 := Nat.pow_le_pow_right (by omega) (by omega)
        have e0 : (128 ^ 9 : Nat) = 9223372036854775808 := by decide
        rw [e0] at e1
        have : ((128 ^ s.size : Nat) : Int) ≤ 9223372036854775808 := by exact Int.ofNat_le.2 e1
        omega
    generalize val (bytesOf s) = v at *
    unfold unzig
    by_cases ho : v % 2 = 1
    · rw [if_pos ho, if_neg (by omega), wrap_in (-(v / 2)) (by omega) (by omega), wrap_in _ (by omega) (by omega)]
    · rw [if_neg ho, if_pos (by omega)]
  | succ d ih =>
    intro k i h1 h2 h3 h4
    obtain ⟨k, rfl⟩ : ∃ m, k = m + 2 := ⟨k - 2, by omega⟩
    simp only [billetref01_value.l0]
    have hb := bt_range s i
    have hi9 : i ≤ 9 := by omega
    rw [if_pos (by omega), if_pos (by omega), if_neg (by omega), if_pos hi9, wrap_in (bt s i) (by omega) (by omega), tmod_pos' _ _ (by omega)]
    have hv := val_take s i (by omega)
    have hv0 := val_nonneg ((bytesOf s).take i)
    have hlt := val_lt ((bytesOf s).take i)
    rw [List.length_take, bytesOf_length, Nat.min_eq_left (by omega)] at hlt
    by_cases h9 : i = 9
    · subst h9
      have e0 : ((128 ^ 9 : Nat) : Int) = 9223372036854775808 := by decide
      rw [e0] at hv hlt
      rw [if_pos (by rfl)]
      have hsz : s.size = 10 := by omega
      simp only [billetref01_value.j1]
      rw [show ((9 : Nat) : Int) = 9 from rfl] at *
      by_cases hd1 : bt s 9 % 128 > 1
      · rw [if_pos (by simpa using hd1), if_pos ⟨hsz, hd1⟩]
      · rw [if_neg (by simpa using hd1), if_pos rfl]
        have hih := ih k 10 (by omega) (by omega) (by omega) (fun _ => by omega)
        rw [if_neg (by omega)] at hih
        rw [hv] at hih
        rw [wrap_in (bt s 9 % 128 * 4611686018427387904) (by omega) (by omega), wrap_in _ (by omega) (by omega), wrap_in (9 + 1) (by omega) (by omega)]
        rw [show (val (List.take 9 (bytesOf s)) + bt s 9 % 128 * 9223372036854775808) % 2 = val (List.take 9 (bytesOf s)) % 2 by omega,
          show (val (List.take 9 (bytesOf s)) + bt s 9 % 128 * 9223372036854775808) / 2 = val (List.take 9 (bytesOf s)) / 2 + bt s 9 % 128 * 4611686018427387904 by omega] at hih
        exact hih
    · rw [if_neg (by omega)]
      simp only [billetref01_value.j1]
      rw [if_neg (by simp), if_neg (by omega)]
      have hih := ih k (i + 1) (by omega) (by omega) (by omega) (fun _ => by omega)
      have hp8 : 128 ^ (i - 1) ≤ 128 ^ 7 := Nat.pow_le_pow_right (by omega) (by omega)
      have e7 : (128 ^ 7 : Nat) = 562949953421312 := by decide
      have hpi : 128 ^ i = 128 * 128 ^ (i - 1) := by
        obtain ⟨j, rfl⟩ : ∃ j, i = j + 1 := ⟨i - 1, by omega⟩
        rw [Nat.pow_succ, Nat.mul_comm]; rfl
      rw [if_pos (by omega), hv, Nat.add_sub_cancel, hpi] at hih
      rw [hpi] at hlt
      have hc0 : 0 ≤ bt s i % 128 ∧ bt s i % 128 ≤ 127 := by omega
      generalize 128 ^ (i - 1) = p at *
      generalize val (List.take i (bytesOf s)) = v at *
      generalize bt s i % 128 = c at *
      have hc1 : (0 : Int) ≤ c * (64 * p : Nat) := Int.mul_nonneg (by omega) (by omega)
      have hc2 : c * ((64 * p : Nat) : Int) ≤ 127 * ((64 * p : Nat) : Int) := Int.mul_le_mul_of_nonneg_right (by omega) (by omega)
      have hc3 : c * ((128 * p : Nat) : Int) = 2 * (c * ((64 * p : Nat) : Int)) := by simp only [Int.natCast_mul]; grind
      rw [hc3] at hih
      rw [wrap_in (c * _) (by omega) (by omega), wrap_in (v / 2 + _) (by omega) (by omega), wrap_in (((64 * p : Nat) : Int) * 128) (by omega) (by omega), wrap_in (i + 1) (by omega) (by omega)]
      rw [show (v + 2 * (c * ((64 * p : Nat) : Int))) % 2 = v % 2 by omega, show (v + 2 * (c * ((64 * p : Nat) : Int))) / 2 = v / 2 + c * ((64 * p : Nat) : Int) by omega,
        show ((64 * (128 * p) : Nat) : Int) = ((64 * p : Nat) : Int) * 128 by omega, show ((i + 1 : Nat) : Int) = (i : Int) + 1 by omega] at hih
      exact hih
theorem value_eq (s : ByteArray) (hs : s.size ≤ 10) (h1 : 1 ≤ s.size) (k : Nat) (hk : 30 ≤ k) :
    billetref01_value.f k s = some (if s.size = 10 ∧ bt s 9 % 128 > 1 then (0, false) else (unzig (val (bytesOf s)), true)) := by
  unfold billetref01_value.f
  have hb := bt_range s ((0 : Nat) : Int)
  rw [if_pos (by omega)]
  have hv := val_take s 0 (by omega)
  rw [List.take_zero, show val [] = 0 from rfl, Nat.pow_zero] at hv
  have h := value_l0 s hs (s.size - 1) k 1 (by omega) (by omega) (by omega) (by omega)
  rw [if_pos (by omega), hv] at h
  rw [show ((0 : Nat) : Int) = 0 from rfl] at hb h
  rw [wrap_in (bt s 0) (by omega) (by omega), tmod_pos' _ _ (by omega), tmod_pos' _ _ (by omega), Int.tdiv_eq_ediv_of_nonneg (by omega), wrap_in _ (by omega) (by omega)]
  rw [show (0 : Int) + bt s 0 % 128 * ((1 : Nat) : Int) = bt s 0 % 128 by omega, show bt s 0 % 128 % 2 = bt s 0 % 2 by omega, show ((64 * 128 ^ (1 - 1) : Nat) : Int) = 64 by decide] at h
  exact h
/-! ### the document's reader -/
/-- what a number taken up by the document's reader comes to -/
def rout (s : ByteArray) : Option (Int × Nat) → Int × ByteArray × Bool
  | none => (0, s, true)
  | some (z, c) => (unzig z, s.extract c s.size, false)
theorem fst_step (s : ByteArray) (i : Nat) (h : i < s.size) (h2 : fst (bytesOf s) ≥ i) : (bt s i ≥ 128 ∧ fst (bytesOf s) ≥ i + 1) ∨ (bt s i < 128 ∧ fst (bytesOf s) = i) := by
  have key : ∀ (l : List Int) (i : Nat) (b : Int) (r : List Int), l.drop i = b :: r → fst l ≥ i → (b ≥ 128 ∧ fst l ≥ i + 1) ∨ (b < 128 ∧ fst l = i) := by
    intro l
    induction l with
    | nil => intro i b r h; simp at h
    | cons a l ih =>
      intro i b r h hf
      cases i with
      | zero =>
        simp at h
        obtain ⟨rfl, _⟩ := h
        simp only [fst]
        by_cases ha : a < 128
        · rw [if_pos ha]; right; omega
        · rw [if_neg ha]; left; omega
      | succ i =>
        simp only [fst] at hf ⊢
        by_cases ha : a < 128
        · rw [if_pos ha] at hf; omega
        · rw [if_neg ha] at hf ⊢
          have := ih i b r (by simpa using h) (by omega)
          omega
  exact key _ i _ _ (drop_step s i h) h2
theorem getD_bt (s : ByteArray) (i : Nat) : (bytesOf s).getD i 0 = bt s i := by rw [← rd_bytesOf]; simp [rd]
theorem bytes_ext' (s : ByteArray) (j : Nat) : bytesOf (s.extract 0 j) = (bytesOf s).take j := by
  unfold bytesOf
  rw [ByteArray.data_extract, Array.toList_extract, List.extract_eq_take_drop, List.map_take, List.map_drop]
  simp
theorem bytes_in (s : ByteArray) : ∀ x ∈ bytesOf s, 0 ≤ x ∧ x ≤ 255 := by
  intro x hx
  unfold bytesOf at hx
  obtain ⟨b, _, rfl⟩ := List.mem_map.1 hx
  have := b.toNat_lt
  omega
theorem RNum_j2 (s : ByteArray) (hs : s.size ≤ 4611686018427387904) (k : Nat) (hk : 40 ≤ k) (b : Bool) (n : Nat) (hn : n = fst (bytesOf s))
    (hb : b = true ↔ (fst (bytesOf s) = (bytesOf s).length ∨ 10 ≤ 0 + fst (bytesOf s) ∨ (0 < 0 + fst (bytesOf s) ∧ (bytesOf s).getD (fst (bytesOf s)) 0 = 0))) :
    billetref01_Reader_Num.j2 k n b s false = some (rout s (dec 0 0 (bytesOf s))) := by
  obtain ⟨k, rfl⟩ : ∃ m, k = m + 1 := ⟨k - 1, by omega⟩
  have hle := fst_le (bytesOf s)
  rw [dec_spec _ 0 0 (bytes_in s)]
  have hlen := bytesOf_length s
  simp only [billetref01_Reader_Num.j2]
  by_cases h : b = true
  · rw [if_pos h, if_pos (show wrong 0 (bytesOf s) by have := hb.1 h; unfold wrong; omega)]; rfl
  · have hnb : ¬ (fst (bytesOf s) = (bytesOf s).length ∨ 10 ≤ 0 + fst (bytesOf s) ∨ (0 < 0 + fst (bytesOf s) ∧ (bytesOf s).getD (fst (bytesOf s)) 0 = 0)) := fun hh => h (hb.2 hh)
    have hsz : (s.extract 0 (n + 1)).size = n + 1 := by rw [ByteArray.size_extract]; omega
    rw [if_neg h, wrap_in _ (by omega) (by omega), show (n : Int) + 1 = ((n + 1 : Nat) : Int) by omega, if_pos (by omega), if_pos (by omega), Int.toNat_natCast, value_eq _ (by omega) (by omega) k (by omega), Option.bind_some, bytes_ext', hsz]
    have hb9 : n = 9 → bt (s.extract 0 (n + 1)) 9 = (bytesOf s).getD (fst (bytesOf s)) 0 := by
      intro h9
      have e := getD_bt (s.extract 0 (n + 1)) 9
      rw [show ((9 : Nat) : Int) = 9 from rfl] at e
      rw [← e, bytes_ext', ← hn, h9]
      simp [List.getD_eq_getElem?_getD, List.getElem?_take]
    have hlow : n < s.size → (bytesOf s).getD (fst (bytesOf s)) 0 < 128 := by
      intro hlt
      rw [← hn, getD_bt]
      rcases fst_step s n hlt (by omega) with h | h <;> omega
    have hlow := hlow (by omega)
    have hge : 0 ≤ (bytesOf s).getD (fst (bytesOf s)) 0 := by
      rw [getD_bt]; have := bt_range s (fst (bytesOf s)); omega
    by_cases h9 : 0 + fst (bytesOf s) = 9 ∧ (bytesOf s).getD (fst (bytesOf s)) 0 > 1
    · rw [if_pos (show n + 1 = 10 ∧ bt (s.extract 0 (n + 1)) 9 % 128 > 1 from ⟨by omega, by rw [hb9 (by omega)]; omega⟩), if_neg (by simp), if_pos (show wrong 0 (bytesOf s) from .inr (.inr (.inr h9)))]; rfl
    · rw [if_neg (show ¬ (n + 1 = 10 ∧ bt (s.extract 0 (n + 1)) 9 % 128 > 1) by rintro ⟨hn9, hgt⟩; rw [hb9 (by omega)] at hgt; omega), if_pos rfl, if_neg (show ¬ wrong 0 (bytesOf s) by unfold wrong; omega)]
      simp only [rout]
      rw [← hn, Int.pow_zero, Int.one_mul, Int.zero_add, Nat.zero_add]
theorem RNum_j1 (s : ByteArray) (hs : s.size ≤ 4611686018427387904) (k : Nat) (hk : 41 ≤ k) (n : Nat) (hn : n = fst (bytesOf s)) : billetref01_Reader_Num.j1 k n s false = some (rout s (dec 0 0 (bytesOf s))) := by
  obtain ⟨k, rfl⟩ : ∃ m, k = m + 1 := ⟨k - 1, by omega⟩
  have hle := fst_le (bytesOf s)
  have hlen := bytesOf_length s
  simp only [billetref01_Reader_Num.j1]
  by_cases h1 : n ≥ 10
  · rw [if_pos (by omega)]; exact RNum_j2 s hs k (by omega) true n hn (by simp; omega)
  · rw [if_neg (by omega)]
    by_cases h2 : n = s.size
    · rw [if_pos (by omega)]; exact RNum_j2 s hs k (by omega) true n hn (by simp; omega)
    · rw [if_neg (by omega)]
      by_cases h3 : 0 < n
      · rw [if_pos (by omega), if_pos (by omega), if_pos (by omega)]
        refine RNum_j2 s hs k (by omega) _ n hn ?_
        rw [beq_iff_eq, ← getD_bt, ← hn]
        constructor
        · intro h; right; right; exact ⟨by omega, h⟩
        · rintro (h | h | h)
          · omega
          · omega
          · exact h.2
      · rw [if_neg (by omega)]; exact RNum_j2 s hs k (by omega) false n hn (by simp; omega)
theorem RNum_l0 (s : ByteArray) (hs : s.size ≤ 4611686018427387904) (d : Nat) : ∀ (k i : Nat), i + d = s.size → d + 42 ≤ k → i ≤ fst (bytesOf s) → billetref01_Reader_Num.l0 k i s false = some (rout s (dec 0 0 (bytesOf s))) := by
  induction d with
  | zero =>
    intro k i h1 h2 h3
    obtain ⟨k, rfl⟩ : ∃ m, k = m + 1 := ⟨k - 1, by omega⟩
    have hle := fst_le (bytesOf s)
    rw [bytesOf_length] at hle
    simp only [billetref01_Reader_Num.l0]
    rw [if_neg (by omega)]
    exact RNum_j1 s hs k (by omega) i (by omega)
  | succ d ih =>
    intro k i h1 h2 h3
    obtain ⟨k, rfl⟩ : ∃ m, k = m + 1 := ⟨k - 1, by omega⟩
    simp only [billetref01_Reader_Num.l0]
    rw [if_pos (by omega), if_pos (by omega)]
    rcases fst_step s i (by omega) h3 with ⟨hb, hf⟩ | ⟨hb, hf⟩
    · rw [if_pos hb, wrap_in _ (by omega) (by omega), show (i : Int) + 1 = ((i + 1 : Nat) : Int) by omega]
      exact ih k (i + 1) (by omega) (by omega) hf
    · rw [if_neg (by omega)]
      exact RNum_j1 s hs k (by omega) i hf.symm
theorem RNum_good (s : ByteArray) (hs : s.size ≤ 4611686018427387904) (k : Nat) (hk : s.size + 42 ≤ k) : billetref01_Reader_Num.f k s false = some (rout s (dec 0 0 (bytesOf s))) := by
  unfold billetref01_Reader_Num.f
  rw [if_neg (by simp)]
  exact RNum_l0 s hs s.size k 0 (by omega) (by omega) (by omega)
theorem RNum_bad (s : ByteArray) (k : Nat) : billetref01_Reader_Num.f k s true = some (0, s, true) := by
  unfold billetref01_Reader_Num.f; rw [if_pos rfl]
/-! ### a number has one form alone -/
theorem digs_val (k : Nat) : ∀ (l : List Int), (∀ x ∈ l, 0 ≤ x ∧ x ≤ 255) → fst l < l.length → fst l ≤ k → (0 < fst l → l.getD (fst l) 0 ≠ 0) → (fst l = 0 ∨ True) →
    digs k (val (l.take (fst l + 1))) = l.take (fst l + 1) := by
  induction k with
  | zero =>
    intro l hl h1 h2 h3 _
    cases l with
    | nil => simp [fst] at h1
    | cons b l =>
      have hb := hl b (by simp)
      have hf : fst (b :: l) = 0 := by omega
      have hb2 : b < 128 := by
        simp only [fst] at hf
        split at hf
        · assumption
        · omega
      rw [hf]
      simp only [Nat.zero_add, List.take_succ_cons, List.take_zero, val, digs]
      congr 1; omega
  | succ k ih =>
    intro l hl h1 h2 h3 _
    cases l with
    | nil => simp [fst] at h1
    | cons b l =>
      have hb := hl b (by simp)
      by_cases hb2 : b < 128
      · have hf : fst (b :: l) = 0 := by simp [fst, hb2]
        rw [hf]
        simp only [Nat.zero_add, List.take_succ_cons, List.take_zero, val, digs]
        rw [if_neg (by omega)]
        congr 1; omega
      · have hf : fst (b :: l) = fst l + 1 := by simp [fst, hb2]
        have hih := ih l (fun x hx => hl x (by simp [hx])) (by rw [hf, List.length_cons] at h1; omega) (by omega) (fun h0 => by have := h3 (by omega); rw [hf] at this; exact this) (.inr trivial)
        rw [hf]
        rw [show fst l + 1 + 1 = (fst l + 1) + 1 from rfl, List.take_succ_cons]
        have hdg : ∀ u : Int, 128 ≤ u → digs (k + 1) u = (u % 128 + 128) :: digs k (u / 128) := by
          intro u hu
          simp only [digs]
          rw [if_pos hu]
        simp only [val]
        have hpos : 0 < val (l.take (fst l + 1)) := by
          have h0 := val_nonneg (l.take (fst l + 1))
          have hne : val (l.take (fst l + 1)) ≠ 0 := by
            intro hz
            rw [hz] at hih
            have hd0 : digs k 0 = [0] := by cases k <;> simp [digs]
            rw [hd0] at hih
            have hlen := congrArg List.length hih
            rw [List.length_take] at hlen
            have hl1 : fst l < l.length := by rw [hf, List.length_cons] at h1; omega
            have hf0 : fst l = 0 := by simp at hlen; omega
            have h4 := h3 (by omega)
            rw [hf, show (b :: l).getD (fst l + 1) 0 = l.getD (fst l) 0 from rfl, hf0] at h4
            rw [hf0] at hih
            cases l with
            | nil => simp at hl1
            | cons c l => simp at hih; exact h4 (by simp [← hih])
          omega
        rw [hdg _ (by omega), show (b % 128 + 128 * val (List.take (fst l + 1) l)) / 128 = val (List.take (fst l + 1) l) by omega, hih]
        congr 1; omega
theorem zig_unzig (z : Int) (h : 0 ≤ z) : zig (unzig z) = z := by
  unfold zig unzig
  split <;> split <;> omega
theorem dec_form (s : ByteArray) (z : Int) (c : Nat) (h : dec 0 0 (bytesOf s) = some (z, c)) (hz : -9223372036854775808 ≤ unzig z ∧ unzig z ≤ 9223372036854775807) : (bytesOf s).take c = bytesOf (num (unzig z)) := by
  have hw := dec_spec (bytesOf s) 0 0 (bytes_in s)
  rw [h] at hw
  split at hw
  · cases hw
  · rename_i hn
    unfold wrong at hn
    simp only [Option.some.injEq, Prod.mk.injEq, Int.pow_zero, Int.one_mul, Int.zero_add, Nat.zero_add] at hw
    obtain ⟨hz1, hc⟩ := hw
    have hle := fst_le (bytesOf s)
    have hv0 := val_nonneg ((bytesOf s).take (fst (bytesOf s) + 1))
    rw [num_bytes _ hz.1 hz.2, zig_unzig z (by omega), hz1, hc, digs_val 9 _ (bytes_in s) (by omega) (by omega) (by intro h0 h1; exact hn (.inr (.inr (.inl ⟨by omega, h1⟩)))) (.inr trivial)]
end Go.Proofs.YtdgaancbeakfdaaDoor.Rrd
