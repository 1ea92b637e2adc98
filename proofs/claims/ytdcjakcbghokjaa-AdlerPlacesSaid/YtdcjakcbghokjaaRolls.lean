/- Roll is the sum of the window one byte on, all along a text: for every text and window, without conditions. -/
import Derived.Test.YtdcjakcbghokjaaPAdlerRollsx1
import Derived.Lib.Hide
import Derived.StillTailTactics
namespace Go.Proofs.Ytdcjakcbghokjaa.Rolls
open Go.RowKit Go.Proofs.Ytdcjakcbghokjaa.PAdlerRolls Go.Proofs.YtdcjakcbghokjaaW.PrintWords Go.Proofs.YtdcjakcbghokjaaW.PrintLast Go.Proofs.YtdcjakcbghokjaaW.PrintMore
attribute [local go_sem] max2_int min2_int max_two min_two max_three min_three max_four min_four
set_option linter.unusedVariables false
/-! ### the plain theory of the two halves -/
def sm : List Int → Int
  | [] => 0
  | b :: l => b + sm l
def wt : List Int → Int
  | [] => 0
  | b :: l => b * ((l.length : Int) + 1) + wt l
def rn (lo hi : Int) : List Int → Int × Int
  | [] => (lo, hi)
  | b :: l => rn ((lo + b) % 65521) ((hi + (lo + b) % 65521) % 65521) l
/-- equal modulo 65521 -/
def eqm (a b : Int) : Prop := ∃ k, a = b + 65521 * k
theorem eqm_of {a b : Int} (h : a % 65521 = b % 65521) : eqm a b := ⟨(a - b) / 65521, by omega⟩
theorem eqm_to {a b : Int} (h : eqm a b) : a % 65521 = b % 65521 := by obtain ⟨k, rfl⟩ := h; omega
theorem eqm_md (a : Int) : ∃ k, a % 65521 = a + 65521 * k := ⟨-(a / 65521), by omega⟩
theorem sm_append (a b : List Int) : sm (a ++ b) = sm a + sm b := by
  induction a with
  | nil => simp [sm]
  | cons x l ih => simp [sm, ih]; omega
theorem wt_append (a b : List Int) : wt (a ++ b) = wt a + wt b + sm a * b.length := by
  induction a with
  | nil => simp [sm, wt]
  | cons x l ih => simp only [List.cons_append, wt, sm, ih, List.length_append, Int.natCast_add]; grind
theorem rn_append (a b : List Int) : ∀ lo hi, rn lo hi (a ++ b) = rn (rn lo hi a).1 (rn lo hi a).2 b := by
  induction a with
  | nil => intro lo hi; rfl
  | cons x l ih => intro lo hi; exact ih _ _
theorem rn_eq (l : List Int) : ∀ lo hi, 0 ≤ lo → lo < 65521 → 0 ≤ hi → hi < 65521 →
    rn lo hi l = ((lo + sm l) % 65521, (hi + l.length * lo + wt l) % 65521) := by
  induction l with
  | nil => intro lo hi h1 h2 h3 h4; simp [rn, sm, wt]; omega
  | cons b l ih =>
    intro lo hi h1 h2 h3 h4
    simp only [rn, sm, wt]
    rw [ih _ _ (by omega) (by omega) (by omega) (by omega)]
    obtain ⟨k, hk⟩ := eqm_md (lo + b)
    obtain ⟨m, hm⟩ := eqm_md (hi + (lo + b) % 65521)
    rw [hm, hk]
    congr 1
    · omega
    · apply eqm_to
      refine ⟨k + m + l.length * k, ?_⟩
      simp only [List.length_cons, Int.natCast_add]
      grind
theorem rn_bd (l : List Int) (lo hi : Int) (h1 : 0 ≤ lo) (h2 : lo < 65521) (h3 : 0 ≤ hi) (h4 : hi < 65521) :
    0 ≤ (rn lo hi l).1 ∧ (rn lo hi l).1 < 65521 ∧ 0 ≤ (rn lo hi l).2 ∧ (rn lo hi l).2 < 65521 := by
  rw [rn_eq l lo hi h1 h2 h3 h4]; dsimp only; omega
/-! ### the program's functions -/
theorem wrap_in (a : Int) (h1 : -9223372036854775808 ≤ a) (h2 : a ≤ 9223372036854775807) : wrap64 a = a := by
  unfold wrap64; omega
theorem tmod_pos (a : Int) (h : 0 ≤ a) : Int.tmod a 65521 = a % 65521 := Int.tmod_eq_emod_of_nonneg h
theorem tmod_neg (a : Int) (h : a < 0) : Int.tmod a 65521 = -((-a) % 65521) := by
  have : a = -(-a) := by omega
  rw [this, Int.neg_tmod, tmod_pos _ (by omega)]; omega
theorem rest_int (a : Int) (h1 : -9223372036854775808 ≤ a) (h2 : a ≤ 9223372036854775807) : adler_rest_int.f a = some (a % 65521) := by
  unfold adler_rest_int.f
  by_cases h : 0 ≤ a
  · rw [tmod_pos a h, if_neg (by omega)]
  · rw [tmod_neg a (by omega)]
    by_cases h0 : -((-a) % 65521) < 0
    · rw [if_pos h0, wrap_in _ (by omega) (by omega)]; congr 1; omega
    · rw [if_neg h0]; congr 1; omega
theorem rest_u32 (a : Int) (h1 : 0 ≤ a) (h2 : a < 4294967296) : adler_rest_uint32.f a = some (a % 65521) := by
  unfold adler_rest_uint32.f
  rw [wrap_in a (by omega) (by omega), tmod_pos a h1, if_neg (by omega)]
theorem wraps_u32' (n : Int) (h₀ : 0 ≤ n) (h₁ : n < 2 ^ 32) : IntKind.u32.wrap n = n := by rw [IntKind.wrap_u32]; omega
theorem and_low (a : Int) (h1 : 0 ≤ a) (h2 : a < 4294967296) : Go.bits .and .u32 a 65535 = a % 65536 :=
  bits_mask .u32 32 (by decide) wraps_u32' 16 (by decide) a h1 (by omega)
theorem or_join (a b : Int) (ha : 0 ≤ a) (hm : a % 65536 = 0) (h2 : a < 4294967296) (hb : 0 ≤ b) (hb2 : b < 65536) : Go.bits .or .u32 a b = a + b := by
  exact bits_join .u32 32 (by decide) wraps_u32' 16 a b ha hm (by omega) hb hb2 (by omega)
theorem of_eq (a : Int) (h1 : 0 ≤ a) (h2 : a < 4294967296) : adler_of.f a = some (a % 65536 % 65521, a / 65536 % 65521) := by
  unfold adler_of.f
  rw [and_low a h1 h2, rest_u32 _ (by omega) (by omega), Option.bind_some, rest_u32 _ (by omega) (by omega), Option.bind_some]
theorem sum_eq (lo hi : Int) (h1 : -9223372036854775808 ≤ lo) (h2 : lo ≤ 9223372036854775807) (h3 : -9223372036854775808 ≤ hi) (h4 : hi ≤ 9223372036854775807) :
    adler_pair_sum.f lo hi = some (hi % 65521 * 65536 + lo % 65521) := by
  unfold adler_pair_sum.f
  rw [rest_int hi h3 h4, Option.bind_some, rest_int lo h1 h2, Option.bind_some, or_join _ _ (by omega) (by omega) (by omega) (by omega) (by omega)]
  congr 1; omega
/-- a sum out of its halves -/
def en (p : Int × Int) : Int := p.2 * 65536 + p.1
theorem en_bd (p : Int × Int) (h1 : 0 ≤ p.1) (h2 : p.1 < 65521) (h3 : 0 ≤ p.2) (h4 : p.2 < 65521) : 0 ≤ en p ∧ en p < 4294967296 := by unfold en; omega
theorem en_low (p : Int × Int) (h1 : 0 ≤ p.1) (h2 : p.1 < 65521) (_ : 0 ≤ p.2) (_ : p.2 < 65521) : en p % 65536 % 65521 = p.1 := by unfold en; omega
theorem en_high (p : Int × Int) (h1 : 0 ≤ p.1) (h2 : p.1 < 65521) (h3 : 0 ≤ p.2) (h4 : p.2 < 65521) : en p / 65536 % 65521 = p.2 := by unfold en; omega
theorem drop_step (s : ByteArray) (i : Nat) (h : i < s.size) : (bytesOf s).drop i = bt s i :: (bytesOf s).drop (i + 1) := by
  have hl : i < (bytesOf s).length := by rw [bytesOf_length]; exact h
  rw [List.drop_eq_getElem_cons hl]
  congr 1
  rw [← rd_bytesOf]; simp [rd, List.getD_eq_getElem?_getD, List.getElem?_eq_getElem hl]
theorem add_l0 (s : ByteArray) (hs : (s.size : Int) ≤ 281474976710655) (d : Nat) : ∀ (k : Nat) (i : Nat) (lo hi : Int), i + d = s.size → d < k → 0 ≤ lo → lo < 65521 → 0 ≤ hi → hi < 65521 →
    adler_Add.l0 k s (s.size : Int) (i : Int) lo hi = some (en (rn lo hi ((bytesOf s).drop i))) := by
  induction d with
  | zero =>
    intro k i lo hi hd hk h1 h2 h3 h4
    obtain ⟨k, rfl⟩ : ∃ m, k = m + 1 := ⟨k - 1, by omega⟩
    simp only [adler_Add.l0]
    rw [if_neg (by omega), sum_eq _ _ (by omega) (by omega) (by omega) (by omega), List.drop_of_length_le (by rw [bytesOf_length]; omega)]
    simp only [Option.bind_some, rn, en]; congr 1; omega
  | succ d ih =>
    intro k i lo hi hd hk h1 h2 h3 h4
    obtain ⟨k, rfl⟩ : ∃ m, k = m + 1 := ⟨k - 1, by omega⟩
    have hb := bt_range s i
    simp only [adler_Add.l0]
    rw [if_pos (by omega), if_pos (by omega), if_pos (by omega), wrap_in (bt s i) (by omega) (by omega), wrap_in _ (by omega) (by omega), rest_int _ (by omega) (by omega)]
    simp only [Option.bind_some]
    rw [wrap_in (hi + _) (by omega) (by omega), rest_int _ (by omega) (by omega)]
    simp only [Option.bind_some]
    rw [wrap_in (i + 1) (by omega) (by omega), show ((i : Int) + 1) = ((i + 1 : Nat) : Int) by omega,
      ih k (i + 1) _ _ (by omega) (by omega) (by omega) (by omega) (by omega) (by omega), drop_step s i (by omega)]
    rfl
theorem add_eq (k : Nat) (a : Int) (s : ByteArray) (hs : (s.size : Int) ≤ 281474976710655) (hk : s.size < k) (h1 : 0 ≤ a) (h2 : a < 4294967296) :
    adler_Add.f k a s = some (en (rn (a % 65536 % 65521) (a / 65536 % 65521) (bytesOf s))) := by
  unfold adler_Add.f
  rw [of_eq a h1 h2, Option.bind_some]
  have := add_l0 s hs s.size k 0 (a % 65536 % 65521) (a / 65536 % 65521) (by omega) hk (by omega) (by omega) (by omega) (by omega)
  simpa using this
/-- a text's two halves -/
def hv (s : ByteArray) : Int × Int := rn 1 0 (bytesOf s)
theorem hv_eq (s : ByteArray) : hv s = ((1 + sm (bytesOf s)) % 65521, (s.size + wt (bytesOf s)) % 65521) := by
  unfold hv; rw [rn_eq _ 1 0 (by omega) (by omega) (by omega) (by omega), bytesOf_length]; congr 2; omega
theorem hv_bd (s : ByteArray) : 0 ≤ (hv s).1 ∧ (hv s).1 < 65521 ∧ 0 ≤ (hv s).2 ∧ (hv s).2 < 65521 := rn_bd _ _ _ (by omega) (by omega) (by omega) (by omega)
theorem Sum_eq (k : Nat) (s : ByteArray) (hs : (s.size : Int) ≤ 281474976710655) (hk : s.size < k) : adler_Sum.f k s = some (en (hv s)) := by
  unfold adler_Sum.f
  rw [add_eq k 1 s hs hk (by omega) (by omega)]; rfl
theorem lo_bd (lo : Int) (h1 : 0 ≤ lo) (h2 : lo < 65521) (r : Int) (h3 : 0 ≤ r) (h4 : r < 65521) (c : Int) (h5 : -300 ≤ c) (h6 : c ≤ 300) : -9223372036854000000 ≤ r * (lo + c) ∧ r * (lo + c) ≤ 9223372036854000000 := by
  have a : r * (lo + c) ≤ 65521 * 65821 := by
    apply Int.le_trans (Int.mul_le_mul_of_nonneg_left (show lo + c ≤ 65821 by omega) h3); omega
  have b : r * (-(lo + c)) ≤ 65521 * 300 := by
    apply Int.le_trans (Int.mul_le_mul_of_nonneg_left (show -(lo + c) ≤ 300 by omega) h3); omega
  rw [Int.mul_neg] at b
  omega
theorem Roll_eq (a o i n : Int) (h1 : 0 ≤ a) (h2 : a < 4294967296) (ho : 0 ≤ o) (ho2 : o ≤ 255) (hi : 0 ≤ i) (hi2 : i ≤ 255) (hn : -9223372036854775808 ≤ n) (hn2 : n ≤ 9223372036854775807) :
    adler_Roll.f a o i n = some (en ((a % 65536 % 65521 + (i - o)) % 65521, (a / 65536 % 65521 + (a % 65536 % 65521 + (i - o) - n % 65521 * o - 1)) % 65521)) := by
  have hb := lo_bd o ho (by omega) (n % 65521) (by omega) (by omega) 0 (by omega) (by omega)
  rw [Int.add_zero] at hb
  have hb2 : 0 ≤ n % 65521 * o := Int.mul_nonneg (by omega) ho
  unfold adler_Roll.f
  rw [of_eq a h1 h2, Option.bind_some, rest_int n hn hn2, Option.bind_some]
  dsimp only
  have hb3 : n % 65521 * o ≤ 65521 * 255 := by
    apply Int.le_trans (Int.mul_le_mul_of_nonneg_left ho2 (by omega)); omega
  rw [wrap_in i (by omega) (by omega), wrap_in o (by omega) (by omega), wrap_in (i - o) (by omega) (by omega), wrap_in (n % 65521 * o) (by omega) (by omega),
    wrap_in (a % 65536 % 65521 + (i - o)) (by omega) (by omega), wrap_in (a % 65536 % 65521 + (i - o) - n % 65521 * o) (by omega) (by omega),
    wrap_in (a % 65536 % 65521 + (i - o) - n % 65521 * o - 1) (by omega) (by omega), wrap_in _ (by omega) (by omega), sum_eq _ _ (by omega) (by omega) (by omega) (by omega)]
  simp only [Option.bind_some, en]
theorem awake_yes (k : Nat) (hk : 10 ≤ k) : billetlaw02_awake.f k = some true := by
  unfold billetlaw02_awake.f
  rw [Sum_eq k _ (by decide) (by have : (⟨#[]⟩ : ByteArray).size = 0 := rfl; omega), Option.bind_some, if_pos (by decide +kernel)]
  rw [Sum_eq k _ (by decide) (by have : (⟨#[97]⟩ : ByteArray).size = 1 := rfl; omega), Option.bind_some, if_pos (by decide +kernel)]
  rw [Sum_eq k _ (by decide) (by have : (⟨#[87, 105, 107, 105, 112, 101, 100, 105, 97]⟩ : ByteArray).size = 9 := rfl; omega), Option.bind_some, if_pos (by decide +kernel)]
  rw [Sum_eq k _ (by decide) (by have : (⟨#[97, 98]⟩ : ByteArray).size = 2 := rfl; omega), Option.bind_some]
  have hb := hv_bd (⟨#[97, 98]⟩ : ByteArray)
  have he := en_bd _ hb.1 hb.2.1 hb.2.2.1 hb.2.2.2
  rw [Roll_eq _ 97 99 2 he.1 he.2 (by omega) (by omega) (by omega) (by omega) (by omega) (by omega), Option.bind_some]
  rw [Sum_eq k _ (by decide) (by have : (⟨#[98, 99]⟩ : ByteArray).size = 2 := rfl; omega), Option.bind_some]
  decide +kernel
theorem int64_bd {a : Int} (h : (Lit.int .i64 a).wf = true) : -9223372036854775808 ≤ a ∧ a ≤ 9223372036854775807 := by
  simp [Lit.wf, IntKind.min, IntKind.max, IntKind.bits, IntKind.signed] at h; omega
theorem u32_bd {a : Int} (h : (Lit.int .u32 a).wf = true) : 0 ≤ a ∧ a < 4294967296 := by
  simp [Lit.wf, IntKind.min, IntKind.max, IntKind.bits, IntKind.signed] at h; omega
theorem u8_bd {a : Int} (h : (Lit.int .u8 a).wf = true) : 0 ≤ a ∧ a ≤ 255 := by
  simp [Lit.wf, IntKind.min, IntKind.max, IntKind.bits, IntKind.signed] at h; omega
theorem mn_facts (a : Nat) (b : Int) (hb : 0 ≤ b) : 0 ≤ mn (a : Int) b ∧ mn (a : Int) b ≤ a ∧ mn (a : Int) b ≤ b := by
  unfold mn; split <;> omega
theorem cut_size (a : ByteArray) (b : Int) (hb : 0 ≤ b) : ((a.extract 0 (mn (a.size : Int) b).toNat).size : Int) ≤ b := by
  have := mn_facts a.size b hb
  rw [ByteArray.size_extract]; omega
theorem pick_some (c n : Int) (h1 : -9223372036854775808 ≤ c) (h2 : c ≤ 9223372036854775807) (hn : 0 < n) : ∃ r, billetlaw02_pick.f c n = some r ∧ 0 ≤ r ∧ r < n := by
  unfold billetlaw02_pick.f
  by_cases h : c < 0
  · rw [if_pos h, if_neg (by omega), wrap_in (c + 1) (by omega) (by omega), wrap_in _ (by omega) (by omega)]
    exact ⟨_, rfl, by rw [Int.tmod_eq_emod_of_nonneg (by omega)]; exact Int.emod_nonneg _ (by omega), by rw [Int.tmod_eq_emod_of_nonneg (by omega)]; exact Int.emod_lt_of_pos _ hn⟩
  · rw [if_neg h, if_neg (by omega)]
    exact ⟨_, rfl, by rw [Int.tmod_eq_emod_of_nonneg (by omega)]; exact Int.emod_nonneg _ (by omega), by rw [Int.tmod_eq_emod_of_nonneg (by omega)]; exact Int.emod_lt_of_pos _ hn⟩
theorem bytes_extract (s : ByteArray) (i j : Nat) : bytesOf (s.extract i j) = ((bytesOf s).drop i).take (j - i) := by
  unfold bytesOf
  rw [ByteArray.data_extract, Array.toList_extract, List.extract_eq_take_drop, List.map_take, List.map_drop]
theorem win_head (s : ByteArray) (i n : Nat) (hn : 0 < n) (h : i + n ≤ s.size) : bytesOf (s.extract i (i + n)) = bt s i :: ((bytesOf s).drop (i + 1)).take (n - 1) := by
  rw [bytes_extract, drop_step s i (by omega), show i + n - i = (n - 1) + 1 by omega, List.take_succ_cons]
theorem win_tail (s : ByteArray) (i n : Nat) (hn : 0 < n) (h : i + n < s.size) : bytesOf (s.extract (i + 1) (i + 1 + n)) = ((bytesOf s).drop (i + 1)).take (n - 1) ++ [bt s ((i + n : Nat) : Int)] := by
  rw [bytes_extract, show i + 1 + n - (i + 1) = (n - 1) + 1 by omega, List.take_succ_eq_append_getElem (by rw [List.length_drop, bytesOf_length]; omega)]
  congr 2
  rw [List.getElem_drop, ← rd_bytesOf]
  have hl : i + n < (bytesOf s).length := by rw [bytesOf_length]; omega
  simp only [rd, Int.toNat_natCast, List.getD_eq_getElem?_getD, List.getElem?_eq_getElem hl, Option.getD_some]
  congr 1; omega
theorem roll_hv (s : ByteArray) (i n : Nat) (hn : 0 < n) (h : i + n < s.size) (h3 : s.size ≤ 3000) :
    adler_Roll.f (en (hv (s.extract i (i + n)))) (bt s i) (bt s ((i + n : Nat) : Int)) n = some (en (hv (s.extract (i + 1) (i + 1 + n)))) := by
  have b1 := hv_bd (s.extract i (i + n))
  have e1 := en_bd _ b1.1 b1.2.1 b1.2.2.1 b1.2.2.2
  have r1 := bt_range s i
  have r2 := bt_range s ((i + n : Nat) : Int)
  rw [Roll_eq _ _ _ _ e1.1 e1.2 r1.1 r1.2 r2.1 r2.2 (by omega) (by omega), en_low _ b1.1 b1.2.1 b1.2.2.1 b1.2.2.2, en_high _ b1.1 b1.2.1 b1.2.2.1 b1.2.2.2]
  have hm : (((bytesOf s).drop (i + 1)).take (n - 1)).length = n - 1 := by rw [List.length_take, List.length_drop, bytesOf_length]; omega
  rw [hv_eq (s.extract i (i + n)), hv_eq (s.extract (i + 1) (i + 1 + n)), win_head s i n hn (by omega), win_tail s i n hn h, ByteArray.size_extract, ByteArray.size_extract]
  generalize ((bytesOf s).drop (i + 1)).take (n - 1) = mid at hm ⊢
  generalize bt s i = o at r1 ⊢
  generalize bt s ((i + n : Nat) : Int) = c at r2 ⊢
  rw [sm_append, wt_append, show min (i + n) s.size - i = n by omega, show min (i + 1 + n) s.size - (i + 1) = n by omega]
  simp only [sm, wt, List.length_nil, List.length_cons, hm]
  obtain ⟨k1, e1'⟩ := eqm_md (1 + (o + sm mid))
  obtain ⟨k3, e3⟩ := eqm_md ((n : Int) + (o * (((n - 1 : Nat) : Int) + 1) + wt mid))
  obtain ⟨k5, e5⟩ := eqm_md (n : Int)
  rw [e1', e3, e5]
  congr 2
  congr 1
  · omega
  · apply eqm_to
    refine ⟨k3 + k1 - k5 * o, ?_⟩
    have : ((n - 1 : Nat) : Int) = n - 1 := by omega
    rw [this]
    grind
/-- a call that gives this value and leaves what was there -/
def Gives (f : FuncId) (args : Array Value) (v : Value) : Prop := ∀ w, Calls Try.prog f args w fun e w' => e = .returned v ∧ Below w.heap.size w w'
theorem short (a0 : ByteArray) (a1 : Int) (w : World) (n0 : Nat) (h0 : n0 ≤ a0.size)  (b0 : n0 ≤ 3000) (hs : n0 < 2)
   (e0 : (if 3000 < (a0.size : Int) then 3000 else (a0.size : Int)) = n0)
   (g0 : Gives 10 #[] (.bool true)) :
    Calls Try.prog 3 #[.string a0, .int .i64 a1] w fun e w' => e = .returned (.bool true) ∧ Below w.heap.size w w' := by
  have H := Below.refl w.heap.size w
  have t1 : decide ((n0 : Int) < 2) = true := by simp; omega
  have t2 : decide (n0 < 2) = true := by simp; omega
  go_enter Try.func3, Try.ntmps3
  go_wp2_with fail
  refine (g0 _).mono ?_; rintro e w30 ⟨rfl, hb⟩; replace H := H.trans (hb.mono H.size); clear hb
  go_wp2_with fail
  go_ret
  exact ⟨rfl, H⟩
theorem long (a0 : ByteArray) (a1 : Int) (w : World) (n0 q : Nat) (h0 : n0 ≤ a0.size)  (b0 : n0 ≤ 3000) (hs : 2 ≤ n0) (hm2 : 1 + q < n0)
   (e0 : (if 3000 < (a0.size : Int) then 3000 else (a0.size : Int)) = n0) (f : Nat → Int)
   (g0 : Gives 10 #[] (.bool true))
   (g1 : Gives 11 #[.int .i64 a1, .int .i64 (n0 - 1)] (.int .i64 q))
   (g2 : ∀ i j, i + (1 + q) ≤ n0 → j = i + (1 + q) → Gives 12 #[.string ((a0.extract 0 n0).extract i j)] (.int .u32 (f i)))
   (g3 : ∀ (i : Nat) (x y : Int), i + (1 + q) < n0 → x = bt (a0.extract 0 n0) i → y = bt (a0.extract 0 n0) ((i + (1 + q) : Nat) : Int) → Gives 13 #[.int .u32 (f i), .int .u8 x, .int .u8 y, .int .i64 (1 + (q : Int))] (.int .u32 (f (i + 1)))) :
    Calls Try.prog 3 #[.string a0, .int .i64 a1] w fun e w' => e = .returned (.bool true) ∧ Below w.heap.size w w' := by
  have H := Below.refl w.heap.size w
  have t1 : decide ((n0 : Int) < 2) = false := by simp; omega
  have t2 : decide (n0 < 2) = false := by simp; omega
  have hz0 : (a0.extract 0 n0).size = n0 := by rw [ByteArray.size_extract]; omega
  go_enter Try.func3, Try.ntmps3
  go_wp2_with fail
  refine (g0 _).mono ?_; rintro e w30 ⟨rfl, hb⟩; replace H := H.trans (hb.mono H.size); clear hb
  go_wp2_with fail
  generalize a0.extract 0 n0 = A at *
  subst hz0
  clear t1 t2 e0 h0
  refine (g1 _).mono ?_; rintro e w30 ⟨rfl, hb⟩; replace H := H.trans (hb.mono H.size); clear hb
  go_wp2_with fail
  refine (g2 0 (1 + q) (by omega) (by omega) _).mono ?_; rintro e w31 ⟨rfl, hb⟩; replace H := H.trans (hb.mono H.size); clear hb
  go_wp2_with fail
  go_loopw [7, 8] (fun s i wr => ∃ k : Nat, k + (1 + q) ≤ A.size ∧ i = .int .i64 k ∧ s = .int .u32 (f k) ∧ Below w.heap.size w wr) (fun _ i _ => A.size - (intOf i).toNat)
  case atStart => exact ⟨0, by omega, rfl, rfl, H⟩
  case round =>
    obtain ⟨k, hk, rfl, rfl, H⟩ := hrel
    by_cases hlt : k + (1 + q) < A.size
    · have t3 : decide ((k : Int) + (1 + (q : Int)) < A.size) = true := by simp; omega
      have p1 : (0 : Int) ≤ k := by omega
      have p2 : (k : Int) < A.size := by omega
      have p3 : (0 : Int) ≤ k + (1 + (q : Int)) := by omega
      have p4 : (k : Int) + (1 + (q : Int)) < A.size := by omega
      go_wp2_with fail
      have q1 : IntKind.i64.wrap ((k : Int) + (1 + (q : Int))) = (k : Int) + (1 + (q : Int)) := IntWalk.i64_in _ (by omega)
      have q2 : ((k : Int) + (1 + (q : Int))).toNat = k + (1 + q) := by omega
      have hx1 := bt_at A k
      have hx2 := bt_at A ((k + (1 + q) : Nat) : Int)
      simp only [Int.toNat_natCast] at hx1 hx2
      go_still_tail 10, (by kernel_rfl)
      clear q1 q2
      change wpList _ _ _ _ _ wr.drew
      replace H : Below w.heap.size w wr.drew := H.drew
      generalize wr.drew = w2 at *
      go_wp2_with fail
      refine (g3 k _ _ (by omega) (by simp [bt, show k < A.size by omega]) (by simp) _).mono ?_; rintro e w31 ⟨rfl, hb⟩; replace H := H.trans (hb.mono H.size); clear hb hx1 hx2
      by_cases h7 : (k : Int) % 7 = 0
      · have s1 : ((k : Int) % 7 == 0) = true := by simp [h7]
        have s2 : ((k : Int) % 7 != 0) = false := by simp [h7]
        clear h7
        have p5 : (0 : Int) ≤ (k : Int) + 1 := by omega
        have p6 : (k : Int) + 1 ≤ (k : Int) + 1 + (1 + (q : Int)) := by omega
        have p7 : (k : Int) + 1 + (1 + (q : Int)) ≤ A.size := by omega
        go_wp2_with fail
        refine (g2 (k + 1) _ (by omega) rfl _).mono ?_; rintro e w31 ⟨rfl, hb⟩; replace H := H.trans (hb.mono H.size); clear hb
        go_wp2_with fail
        go_roundw
        case rel => exact ⟨k + 1, by omega, by go_num, rfl, H⟩
        case measure => simp [intOf]; omega
      · have s1 : ((k : Int) % 7 == 0) = false := by simp [h7]
        have s2 : ((k : Int) % 7 != 0) = true := by simp [h7]
        clear h7
        go_wp2_with fail
        go_roundw
        case rel => exact ⟨k + 1, by omega, by go_num, rfl, H⟩
        case measure => simp [intOf]; omega
    · have t3 : decide ((k : Int) + (1 + (q : Int)) < A.size) = false := by simp; omega
      go_wp2_with fail
      rw [show A.size - (1 + q) = k by omega]; refine (g2 k A.size (by omega) (by omega) _).mono ?_; rintro e w31 ⟨rfl, hb⟩; replace H := H.trans (hb.mono H.size); clear hb
      go_wp2_with fail
      go_ret
      exact ⟨rfl, H⟩

theorem sum_gives (s : ByteArray) (hs : (s.size : Int) ≤ 281474976710655) : Gives 12 #[.string s] (.int .u32 (en (hv s))) :=
  fun w => adler_Sum.calls (s.size + 1) s _ w (Sum_eq _ s hs (by omega))
theorem walk (a0 : ByteArray) (a1 : Int) (w : World) (_ : a0.size ≤ 140737488351232) (w1 : (Lit.int .i64 a1).wf = true) :
    Calls Try.prog 3 #[.string a0, .int .i64 a1] w fun e w' => e = .returned (.bool true) ∧ Below w.heap.size w w' := by
  obtain ⟨n0, h0, b0, e0⟩ : ∃ n : Nat, n ≤ a0.size ∧ n ≤ 3000 ∧ (if 3000 < (a0.size : Int) then 3000 else (a0.size : Int)) = (n : Int) :=
    ⟨min a0.size 3000, by omega, by omega, by split <;> omega⟩
  have z0 : (a0.extract 0 n0).size = n0 := by rw [ByteArray.size_extract]; omega
  have g0 : Gives 10 #[] (.bool true) := fun w => billetlaw02_awake.calls 10 true w (awake_yes 10 (by omega))
  by_cases hs : n0 < 2
  · exact short a0 a1 w n0 h0 b0 hs e0 g0
  · have hb := int64_bd w1
    obtain ⟨r, hr, r0, r1⟩ := pick_some a1 (n0 - 1) hb.1 hb.2 (by omega)
    obtain ⟨q, rfl⟩ := Int.eq_ofNat_of_zero_le r0
    refine long a0 a1 w n0 q h0 b0 (by omega) (by omega) e0 (fun i => en (hv ((a0.extract 0 n0).extract i (i + (1 + q))))) g0 (fun w => (billetlaw02_pick.calls _ _ _ w hr).mono fun _ _ h => ⟨h.1, h.2.below⟩) ?_ ?_
    · rintro i j hi rfl
      exact sum_gives _ (by rw [ByteArray.size_extract]; omega)
    · rintro i x y hi rfl rfl
      have := roll_hv (a0.extract 0 n0) i (1 + q) (by omega) (by omega) (by omega)
      rw [show (((1 + q : Nat)) : Int) = 1 + (q : Int) by omega] at this
      exact fun w => adler_Roll.calls _ _ _ _ _ w this
end Go.Proofs.Ytdcjakcbghokjaa.Rolls
