/- Three sums may be joined in either order: for every three texts, without conditions. -/
import Derived.Test.YtdcjakcbghokjaaPAdlerGroupsx1
import Derived.Lib.Hide
namespace Go.Proofs.Ytdcjakcbghokjaa.Groups
open Go.RowKit Go.Proofs.Ytdcjakcbghokjaa.PAdlerGroups Go.Proofs.YtdcjakcbghokjaaW.PrintWords Go.Proofs.YtdcjakcbghokjaaW.PrintLast Go.Proofs.YtdcjakcbghokjaaW.PrintMore
attribute [local go_sem] max2_int min2_int max_two min_two max_three min_three max_four min_four
set_option linter.unusedVariables false
/-! ### the plain theory of the two halves -/
def sm : List Int → Int
  | [] => 0
  | b :: l => b + sm l
def wt : List Int → Int
  | [] => 0
  | b :: l => b * ((l.length : Int) + 1) + wt l
def rn (lo hi : Int) : List Int → Int × Int
  | [] => (lo, hi)
  | b :: l => rn ((lo + b) % 65521) ((hi + (lo + b) % 65521) % 65521) l
/-- equal modulo 65521 -/
def eqm (a b : Int) : Prop := ∃ k, a = b + 65521 * k
theorem eqm_of {a b : Int} (h : a % 65521 = b % 65521) : eqm a b := ⟨(a - b) / 65521, by omega⟩
theorem eqm_to {a b : Int} (h : eqm a b) : a % 65521 = b % 65521 := by obtain ⟨k, rfl⟩ := h; omega
theorem eqm_md (a : Int) : ∃ k, a % 65521 = a + 65521 * k := ⟨-(a / 65521), by omega⟩
theorem sm_append (a b : List Int) : sm (a ++ b) = sm a + sm b := by
  induction a with
  | nil => simp [sm]
  | cons x l ih => simp [sm, ih]; omega
theorem wt_append (a b : List Int) : wt (a ++ b) = wt a + wt b + sm a * b.length := by
  induction a with
  | nil => simp [sm, wt]
  | cons x l ih => simp only [List.cons_append, wt, sm, ih, List.length_append, Int.natCast_add]; grind
theorem rn_append (a b : List Int) : ∀ lo hi, rn lo hi (a ++ b) = rn (rn lo hi a).1 (rn lo hi a).2 b := by
  induction a with
  | nil => intro lo hi; rfl
  | cons x l ih => intro lo hi; exact ih _ _
theorem rn_eq (l : List Int) : ∀ lo hi, 0 ≤ lo → lo < 65521 → 0 ≤ hi → hi < 65521 →
    rn lo hi l = ((lo + sm l) % 65521, (hi + l.length * lo + wt l) % 65521) := by
  induction l with
  | nil => intro lo hi h1 h2 h3 h4; simp [rn, sm, wt]; omega
  | cons b l ih =>
    intro lo hi h1 h2 h3 h4
    simp only [rn, sm, wt]
    rw [ih _ _ (by omega) (by omega) (by omega) (by omega)]
    obtain ⟨k, hk⟩ := eqm_md (lo + b)
    obtain ⟨m, hm⟩ := eqm_md (hi + (lo + b) % 65521)
    rw [hm, hk]
    congr 1
    · omega
    · apply eqm_to
      refine ⟨k + m + l.length * k, ?_⟩
      simp only [List.length_cons, Int.natCast_add]
      grind
theorem rn_bd (l : List Int) (lo hi : Int) (h1 : 0 ≤ lo) (h2 : lo < 65521) (h3 : 0 ≤ hi) (h4 : hi < 65521) :
    0 ≤ (rn lo hi l).1 ∧ (rn lo hi l).1 < 65521 ∧ 0 ≤ (rn lo hi l).2 ∧ (rn lo hi l).2 < 65521 := by
  rw [rn_eq l lo hi h1 h2 h3 h4]; dsimp only; omega
/-! ### the program's functions -/
theorem wrap_in (a : Int) (h1 : -9223372036854775808 ≤ a) (h2 : a ≤ 9223372036854775807) : wrap64 a = a := by
  unfold wrap64; omega
theorem tmod_pos (a : Int) (h : 0 ≤ a) : Int.tmod a 65521 = a % 65521 := Int.tmod_eq_emod_of_nonneg h
theorem tmod_neg (a : Int) (h : a < 0) : Int.tmod a 65521 = -((-a) % 65521) := by
  have : a = -(-a) := by omega
  rw [this, Int.neg_tmod, tmod_pos _ (by omega)]; omega
theorem rest_int (a : Int) (h1 : -9223372036854775808 ≤ a) (h2 : a ≤ 9223372036854775807) : adler_rest_int.f a = some (a % 65521) := by
  unfold adler_rest_int.f
  by_cases h : 0 ≤ a
  · rw [tmod_pos a h, if_neg (by omega)]
  · rw [tmod_neg a (by omega)]
    by_cases h0 : -((-a) % 65521) < 0
    · rw [if_pos h0, wrap_in _ (by omega) (by omega)]; congr 1; omega
    · rw [if_neg h0]; congr 1; omega
theorem rest_u32 (a : Int) (h1 : 0 ≤ a) (h2 : a < 4294967296) : adler_rest_uint32.f a = some (a % 65521) := by
  unfold adler_rest_uint32.f
  rw [wrap_in a (by omega) (by omega), tmod_pos a h1, if_neg (by omega)]
theorem wraps_u32' (n : Int) (h₀ : 0 ≤ n) (h₁ : n < 2 ^ 32) : IntKind.u32.wrap n = n := by rw [IntKind.wrap_u32]; omega
theorem and_low (a : Int) (h1 : 0 ≤ a) (h2 : a < 4294967296) : Go.bits .and .u32 a 65535 = a % 65536 :=
  bits_mask .u32 32 (by decide) wraps_u32' 16 (by decide) a h1 (by omega)
theorem or_join (a b : Int) (ha : 0 ≤ a) (hm : a % 65536 = 0) (h2 : a < 4294967296) (hb : 0 ≤ b) (hb2 : b < 65536) : Go.bits .or .u32 a b = a + b := by
  exact bits_join .u32 32 (by decide) wraps_u32' 16 a b ha hm (by omega) hb hb2 (by omega)
theorem of_eq (a : Int) (h1 : 0 ≤ a) (h2 : a < 4294967296) : adler_of.f a = some (a % 65536 % 65521, a / 65536 % 65521) := by
  unfold adler_of.f
  rw [and_low a h1 h2, rest_u32 _ (by omega) (by omega), Option.bind_some, rest_u32 _ (by omega) (by omega), Option.bind_some]
theorem sum_eq (lo hi : Int) (h1 : -9223372036854775808 ≤ lo) (h2 : lo ≤ 9223372036854775807) (h3 : -9223372036854775808 ≤ hi) (h4 : hi ≤ 9223372036854775807) :
    adler_pair_sum.f lo hi = some (hi % 65521 * 65536 + lo % 65521) := by
  unfold adler_pair_sum.f
  rw [rest_int hi h3 h4, Option.bind_some, rest_int lo h1 h2, Option.bind_some, or_join _ _ (by omega) (by omega) (by omega) (by omega) (by omega)]
  congr 1; omega
/-- a sum out of its halves -/
def en (p : Int × Int) : Int := p.2 * 65536 + p.1
theorem en_bd (p : Int × Int) (h1 : 0 ≤ p.1) (h2 : p.1 < 65521) (h3 : 0 ≤ p.2) (h4 : p.2 < 65521) : 0 ≤ en p ∧ en p < 4294967296 := by unfold en; omega
theorem en_low (p : Int × Int) (h1 : 0 ≤ p.1) (h2 : p.1 < 65521) (_ : 0 ≤ p.2) (_ : p.2 < 65521) : en p % 65536 % 65521 = p.1 := by unfold en; omega
theorem en_high (p : Int × Int) (h1 : 0 ≤ p.1) (h2 : p.1 < 65521) (h3 : 0 ≤ p.2) (h4 : p.2 < 65521) : en p / 65536 % 65521 = p.2 := by unfold en; omega
theorem drop_step (s : ByteArray) (i : Nat) (h : i < s.size) : (bytesOf s).drop i = bt s i :: (bytesOf s).drop (i + 1) := by
  have hl : i < (bytesOf s).length := by rw [bytesOf_length]; exact h
  rw [List.drop_eq_getElem_cons hl]
  congr 1
  rw [← rd_bytesOf]; simp [rd, List.getD_eq_getElem?_getD, List.getElem?_eq_getElem hl]
theorem add_l0 (s : ByteArray) (hs : (s.size : Int) ≤ 281474976710655) (d : Nat) : ∀ (k : Nat) (i : Nat) (lo hi : Int), i + d = s.size → d < k → 0 ≤ lo → lo < 65521 → 0 ≤ hi → hi < 65521 →
    adler_Add.l0 k s (s.size : Int) (i : Int) lo hi = some (en (rn lo hi ((bytesOf s).drop i))) := by
  induction d with
  | zero =>
    intro k i lo hi hd hk h1 h2 h3 h4
    obtain ⟨k, rfl⟩ : ∃ m, k = m + 1 := ⟨k - 1, by omega⟩
    simp only [adler_Add.l0]
    rw [if_neg (by omega), sum_eq _ _ (by omega) (by omega) (by omega) (by omega), List.drop_of_length_le (by rw [bytesOf_length]; omega)]
    simp only [Option.bind_some, rn, en]; congr 1; omega
  | succ d ih =>
    intro k i lo hi hd hk h1 h2 h3 h4
    obtain ⟨k, rfl⟩ : ∃ m, k = m + 1 := ⟨k - 1, by omega⟩
    have hb := bt_range s i
    simp only [adler_Add.l0]
    rw [if_pos (by omega), if_pos (by omega), if_pos (by omega), wrap_in (bt s i) (by omega) (by omega), wrap_in _ (by omega) (by omega), rest_int _ (by omega) (by omega)]
    simp only [Option.bind_some]
    rw [wrap_in (hi + _) (by omega) (by omega), rest_int _ (by omega) (by omega)]
    simp only [Option.bind_some]
    rw [wrap_in (i + 1) (by omega) (by omega), show ((i : Int) + 1) = ((i + 1 : Nat) : Int) by omega,
      ih k (i + 1) _ _ (by omega) (by omega) (by omega) (by omega) (by omega) (by omega), drop_step s i (by omega)]
    rfl
theorem add_eq (k : Nat) (a : Int) (s : ByteArray) (hs : (s.size : Int) ≤ 281474976710655) (hk : s.size < k) (h1 : 0 ≤ a) (h2 : a < 4294967296) :
    adler_Add.f k a s = some (en (rn (a % 65536 % 65521) (a / 65536 % 65521) (bytesOf s))) := by
  unfold adler_Add.f
  rw [of_eq a h1 h2, Option.bind_some]
  have := add_l0 s hs s.size k 0 (a % 65536 % 65521) (a / 65536 % 65521) (by omega) hk (by omega) (by omega) (by omega) (by omega)
  simpa using this
/-- a text's two halves -/
def hv (s : ByteArray) : Int × Int := rn 1 0 (bytesOf s)
theorem hv_eq (s : ByteArray) : hv s = ((1 + sm (bytesOf s)) % 65521, (s.size + wt (bytesOf s)) % 65521) := by
  unfold hv; rw [rn_eq _ 1 0 (by omega) (by omega) (by omega) (by omega), bytesOf_length]; congr 2; omega
theorem hv_bd (s : ByteArray) : 0 ≤ (hv s).1 ∧ (hv s).1 < 65521 ∧ 0 ≤ (hv s).2 ∧ (hv s).2 < 65521 := rn_bd _ _ _ (by omega) (by omega) (by omega) (by omega)
theorem Sum_eq (k : Nat) (s : ByteArray) (hs : (s.size : Int) ≤ 281474976710655) (hk : s.size < k) : adler_Sum.f k s = some (en (hv s)) := by
  unfold adler_Sum.f
  rw [add_eq k 1 s hs hk (by omega) (by omega)]; rfl
theorem lo_bd (lo : Int) (h1 : 0 ≤ lo) (h2 : lo < 65521) (r : Int) (h3 : 0 ≤ r) (h4 : r < 65521) (c : Int) (h5 : -300 ≤ c) (h6 : c ≤ 300) : -9223372036854000000 ≤ r * (lo + c) ∧ r * (lo + c) ≤ 9223372036854000000 := by
  have a : r * (lo + c) ≤ 65521 * 65821 := by
    apply Int.le_trans (Int.mul_le_mul_of_nonneg_left (show lo + c ≤ 65821 by omega) h3); omega
  have b : r * (-(lo + c)) ≤ 65521 * 300 := by
    apply Int.le_trans (Int.mul_le_mul_of_nonneg_left (show -(lo + c) ≤ 300 by omega) h3); omega
  rw [Int.mul_neg] at b
  omega
theorem Roll_eq (a o i n : Int) (h1 : 0 ≤ a) (h2 : a < 4294967296) (ho : 0 ≤ o) (ho2 : o ≤ 255) (hi : 0 ≤ i) (hi2 : i ≤ 255) (hn : -9223372036854775808 ≤ n) (hn2 : n ≤ 9223372036854775807) :
    adler_Roll.f a o i n = some (en ((a % 65536 % 65521 + (i - o)) % 65521, (a / 65536 % 65521 + (a % 65536 % 65521 + (i - o) - n % 65521 * o - 1)) % 65521)) := by
  have hb := lo_bd o ho (by omega) (n % 65521) (by omega) (by omega) 0 (by omega) (by omega)
  rw [Int.add_zero] at hb
  have hb2 : 0 ≤ n % 65521 * o := Int.mul_nonneg (by omega) ho
  unfold adler_Roll.f
  rw [of_eq a h1 h2, Option.bind_some, rest_int n hn hn2, Option.bind_some]
  dsimp only
  have hb3 : n % 65521 * o ≤ 65521 * 255 := by
    apply Int.le_trans (Int.mul_le_mul_of_nonneg_left ho2 (by omega)); omega
  rw [wrap_in i (by omega) (by omega), wrap_in o (by omega) (by omega), wrap_in (i - o) (by omega) (by omega), wrap_in (n % 65521 * o) (by omega) (by omega),
    wrap_in (a % 65536 % 65521 + (i - o)) (by omega) (by omega), wrap_in (a % 65536 % 65521 + (i - o) - n % 65521 * o) (by omega) (by omega),
    wrap_in (a % 65536 % 65521 + (i - o) - n % 65521 * o - 1) (by omega) (by omega), wrap_in _ (by omega) (by omega), sum_eq _ _ (by omega) (by omega) (by omega) (by omega)]
  simp only [Option.bind_some, en]
theorem awake_yes (k : Nat) (hk : 10 ≤ k) : billetlaw02_awake.f k = some true := by
  unfold billetlaw02_awake.f
  rw [Sum_eq k _ (by decide) (by have : (⟨#[]⟩ : ByteArray).size = 0 := rfl; omega), Option.bind_some, if_pos (by decide +kernel)]
  rw [Sum_eq k _ (by decide) (by have : (⟨#[97]⟩ : ByteArray).size = 1 := rfl; omega), Option.bind_some, if_pos (by decide +kernel)]
  rw [Sum_eq k _ (by decide) (by have : (⟨#[87, 105, 107, 105, 112, 101, 100, 105, 97]⟩ : ByteArray).size = 9 := rfl; omega), Option.bind_some, if_pos (by decide +kernel)]
  rw [Sum_eq k _ (by decide) (by have : (⟨#[97, 98]⟩ : ByteArray).size = 2 := rfl; omega), Option.bind_some]
  have hb := hv_bd (⟨#[97, 98]⟩ : ByteArray)
  have he := en_bd _ hb.1 hb.2.1 hb.2.2.1 hb.2.2.2
  rw [Roll_eq _ 97 99 2 he.1 he.2 (by omega) (by omega) (by omega) (by omega) (by omega) (by omega), Option.bind_some]
  rw [Sum_eq k _ (by decide) (by have : (⟨#[98, 99]⟩ : ByteArray).size = 2 := rfl; omega), Option.bind_some]
  decide +kernel
theorem int64_bd {a : Int} (h : (Lit.int .i64 a).wf = true) : -9223372036854775808 ≤ a ∧ a ≤ 9223372036854775807 := by
  simp [Lit.wf, IntKind.min, IntKind.max, IntKind.bits, IntKind.signed] at h; omega
theorem u32_bd {a : Int} (h : (Lit.int .u32 a).wf = true) : 0 ≤ a ∧ a < 4294967296 := by
  simp [Lit.wf, IntKind.min, IntKind.max, IntKind.bits, IntKind.signed] at h; omega
theorem u8_bd {a : Int} (h : (Lit.int .u8 a).wf = true) : 0 ≤ a ∧ a ≤ 255 := by
  simp [Lit.wf, IntKind.min, IntKind.max, IntKind.bits, IntKind.signed] at h; omega
theorem Join_eq (a b n : Int) (h1 : 0 ≤ a) (h2 : a < 4294967296) (h3 : 0 ≤ b) (h4 : b < 4294967296) (hn : -9223372036854775808 ≤ n) (hn2 : n ≤ 9223372036854775807) :
    adler_Join.f a b n = some (en ((a % 65536 % 65521 + b % 65536 % 65521 - 1) % 65521, (a / 65536 % 65521 + n % 65521 * (a % 65536 % 65521 - 1) + b / 65536 % 65521) % 65521)) := by
  have hb := lo_bd (a % 65536 % 65521) (by omega) (by omega) (n % 65521) (by omega) (by omega) (-1) (by omega) (by omega)
  have hb2 : n % 65521 * (a % 65536 % 65521 - 1) ≤ 65521 * 65521 := by
    apply Int.le_trans (Int.mul_le_mul_of_nonneg_left (show a % 65536 % 65521 - 1 ≤ 65521 by omega) (by omega)); omega
  have hb3 : n % 65521 * (-(a % 65536 % 65521 - 1)) ≤ 65521 * 1 := by
    apply Int.le_trans (Int.mul_le_mul_of_nonneg_left (show -(a % 65536 % 65521 - 1) ≤ 1 by omega) (by omega)); omega
  rw [Int.mul_neg] at hb3
  unfold adler_Join.f
  rw [of_eq a h1 h2, Option.bind_some, of_eq b h3 h4, Option.bind_some, rest_int n hn hn2, Option.bind_some]
  dsimp only
  rw [wrap_in (a % 65536 % 65521 + b % 65536 % 65521) (by omega) (by omega), wrap_in (a % 65536 % 65521 - 1) (by omega) (by omega), wrap_in (n % 65521 * _) (by omega) (by omega),
    wrap_in (a / 65536 % 65521 + _) (by omega) (by omega), wrap_in _ (by omega) (by omega), wrap_in _ (by omega) (by omega), sum_eq _ _ (by omega) (by omega) (by omega) (by omega)]
  simp only [Option.bind_some, en]
theorem bytes_append (s t : ByteArray) : bytesOf (s ++ t) = bytesOf s ++ bytesOf t := by
  unfold bytesOf; simp
/-- Join of the sums of two texts is that of both -/
theorem join_hv (s t : ByteArray) (n : Int) (hn : n = t.size) :
    en (((hv s).1 + (hv t).1 - 1) % 65521, ((hv s).2 + n % 65521 * ((hv s).1 - 1) + (hv t).2) % 65521) = en (hv (s ++ t)) := by
  rw [hv_eq s, hv_eq t, hv_eq (s ++ t), bytes_append, sm_append, wt_append, bytesOf_length, ByteArray.size_append]
  dsimp only
  obtain ⟨k1, e1⟩ := eqm_md (1 + sm (bytesOf s))
  obtain ⟨k2, e2⟩ := eqm_md (1 + sm (bytesOf t))
  obtain ⟨k3, e3⟩ := eqm_md ((s.size : Int) + wt (bytesOf s))
  obtain ⟨k4, e4⟩ := eqm_md ((t.size : Int) + wt (bytesOf t))
  obtain ⟨k5, e5⟩ := eqm_md n
  rw [e1, e2, e3, e4, e5, hn]
  congr 2
  · omega
  · apply eqm_to
    simp only [Int.natCast_add]
    refine ⟨k3 + k4 + k5 * (sm (bytesOf s) + 65521 * k1) + t.size * k1, ?_⟩
    grind
/-- the halves of what a Sum is -/
theorem join_of (k1 k2 : ByteArray) (n : Int) (hn : n = k2.size) (hs : (k2.size : Int) ≤ 281474976710655) : adler_Join.f (en (hv k1)) (en (hv k2)) n = some (en (hv (k1 ++ k2))) := by
  have b1 := hv_bd k1
  have b2 := hv_bd k2
  have e1 := en_bd _ b1.1 b1.2.1 b1.2.2.1 b1.2.2.2
  have e2 := en_bd _ b2.1 b2.2.1 b2.2.2.1 b2.2.2.2
  rw [Join_eq _ _ n e1.1 e1.2 e2.1 e2.2 (by omega) (by omega), en_low _ b1.1 b1.2.1 b1.2.2.1 b1.2.2.2, en_high _ b1.1 b1.2.1 b1.2.2.1 b1.2.2.2,
    en_low _ b2.1 b2.2.1 b2.2.2.1 b2.2.2.2, en_high _ b2.1 b2.2.1 b2.2.2.1 b2.2.2.2, join_hv k1 k2 n hn]
/-- a call that gives this value and leaves what was there -/
def Gives (f : FuncId) (args : Array Value) (v : Value) : Prop := ∀ w, Calls Try.prog f args w fun e w' => e = .returned v ∧ Below w.heap.size w w'
theorem groups (a0 a1 a2 : ByteArray) (w : World) (n0 n1 n2 : Nat) (h0 : n0 ≤ a0.size) (h1 : n1 ≤ a1.size) (h2 : n2 ≤ a2.size)
   (b0 : n0 ≤ 1073741824) (b1 : n1 ≤ 1073741824) (b2 : n2 ≤ 1073741824)
   (e0 : (if 1073741824 < (a0.size : Int) then 1073741824 else (a0.size : Int)) = n0)
   (e1 : (if 1073741824 < (a1.size : Int) then 1073741824 else (a1.size : Int)) = n1)
   (e2 : (if 1073741824 < (a2.size : Int) then 1073741824 else (a2.size : Int)) = n2)
   (p q r pq qr pqr : Int)
   (g0 : Gives 10 #[] (.bool true))
   (g1 : Gives 12 #[.string (a0.extract 0 n0)] (.int .u32 p))
   (g2 : Gives 12 #[.string (a1.extract 0 n1)] (.int .u32 q))
   (g3 : Gives 12 #[.string (a2.extract 0 n2)] (.int .u32 r))
   (g4 : Gives 19 #[.int .u32 p, .int .u32 q, .int .i64 n1] (.int .u32 pq))
   (g5 : Gives 19 #[.int .u32 pq, .int .u32 r, .int .i64 n2] (.int .u32 pqr))
   (g6 : Gives 19 #[.int .u32 q, .int .u32 r, .int .i64 n2] (.int .u32 qr))
   (g7 : Gives 19 #[.int .u32 p, .int .u32 qr, .int .i64 ((n1 : Int) + n2)] (.int .u32 pqr))
   (g8 : Gives 12 #[.string ((a0.extract 0 n0) ++ (a1.extract 0 n1) ++ (a2.extract 0 n2))] (.int .u32 pqr))
   (g9 : Gives 19 #[.int .u32 1, .int .u32 p, .int .i64 n0] (.int .u32 p))
   (g10 : Gives 19 #[.int .u32 p, .int .u32 1, .int .i64 0] (.int .u32 p)) :
    Calls Try.prog 9 #[.string a0, .string a1, .string a2] w fun e w' => e = .returned (.bool true) ∧ Below w.heap.size w w' := by
  have H := Below.refl w.heap.size w
  have hz0 : (a0.extract 0 n0).size = n0 := by rw [ByteArray.size_extract]; omega
  have hz1 : (a1.extract 0 n1).size = n1 := by rw [ByteArray.size_extract]; omega
  have hz2 : (a2.extract 0 n2).size = n2 := by rw [ByteArray.size_extract]; omega
  go_enter Try.func9, Try.ntmps9
  go_wp2_with fail
  refine (g0 _).mono ?_; rintro e w30 ⟨rfl, hb⟩; replace H := H.trans (hb.mono H.size); clear hb
  go_wp2_with fail
  generalize a0.extract 0 n0 = A at *
  generalize a1.extract 0 n1 = B at *
  generalize a2.extract 0 n2 = C at *
  subst hz0 hz1 hz2
  refine (g1 _).mono ?_; rintro e w30 ⟨rfl, hb⟩; replace H := H.trans (hb.mono H.size); clear hb
  go_wp2_with fail
  refine (g2 _).mono ?_; rintro e w30 ⟨rfl, hb⟩; replace H := H.trans (hb.mono H.size); clear hb
  go_wp2_with fail
  refine (g3 _).mono ?_; rintro e w30 ⟨rfl, hb⟩; replace H := H.trans (hb.mono H.size); clear hb
  go_wp2_with fail
  refine (g4 _).mono ?_; rintro e w30 ⟨rfl, hb⟩; replace H := H.trans (hb.mono H.size); clear hb
  go_wp2_with fail
  refine (g5 _).mono ?_; rintro e w30 ⟨rfl, hb⟩; replace H := H.trans (hb.mono H.size); clear hb
  go_wp2_with fail
  refine (g6 _).mono ?_; rintro e w30 ⟨rfl, hb⟩; replace H := H.trans (hb.mono H.size); clear hb
  go_wp2_with fail
  refine (g7 _).mono ?_; rintro e w30 ⟨rfl, hb⟩; replace H := H.trans (hb.mono H.size); clear hb
  go_wp2_with fail
  refine (g8 _).mono ?_; rintro e w30 ⟨rfl, hb⟩; replace H := H.trans (hb.mono H.size); clear hb
  go_wp2_with fail
  refine (g9 _).mono ?_; rintro e w30 ⟨rfl, hb⟩; replace H := H.trans (hb.mono H.size); clear hb
  go_wp2_with fail
  refine (g10 _).mono ?_; rintro e w30 ⟨rfl, hb⟩; replace H := H.trans (hb.mono H.size); clear hb
  go_wp2_with fail
  go_ret
  exact ⟨rfl, H⟩

theorem mn_if (a : Nat) : ∃ n : Nat, n ≤ a ∧ n ≤ 1073741824 ∧ (if 1073741824 < (a : Int) then 1073741824 else (a : Int)) = (n : Int) := by
  refine ⟨min a 1073741824, by omega, by omega, ?_⟩
  split <;> omega
theorem sum_gives (s : ByteArray) (hs : (s.size : Int) ≤ 281474976710655) : Gives 12 #[.string s] (.int .u32 (en (hv s))) :=
  fun w => adler_Sum.calls (s.size + 1) s _ w (Sum_eq _ s hs (by omega))
theorem join_gives (s t : ByteArray) (n : Int) (hn : n = t.size) (ht : (t.size : Int) ≤ 281474976710655) : Gives 19 #[.int .u32 (en (hv s)), .int .u32 (en (hv t)), .int .i64 n] (.int .u32 (en (hv (s ++ t)))) := by
  exact fun w => adler_Join.calls _ _ _ _ w (join_of s t n hn ht)
theorem walk (a0 a1 a2 : ByteArray) (w : World) (_ : a0.size ≤ 140737488351232) (_ : a1.size ≤ 140737488351232) (_ : a2.size ≤ 140737488351232) :
    Calls Try.prog 9 #[.string a0, .string a1, .string a2] w fun e w' => e = .returned (.bool true) ∧ Below w.heap.size w w' := by
  obtain ⟨n0, h0, b0, e0⟩ := mn_if a0.size
  obtain ⟨n1, h1, b1, e1⟩ := mn_if a1.size
  obtain ⟨n2, h2, b2, e2⟩ := mn_if a2.size
  have z0 : (a0.extract 0 n0).size = n0 := by rw [ByteArray.size_extract]; omega
  have z1 : (a1.extract 0 n1).size = n1 := by rw [ByteArray.size_extract]; omega
  have z2 : (a2.extract 0 n2).size = n2 := by rw [ByteArray.size_extract]; omega
  have o : en (hv ByteArray.empty) = 1 := by decide +kernel
  refine groups a0 a1 a2 w n0 n1 n2 h0 h1 h2 b0 b1 b2 e0 e1 e2 (en (hv (a0.extract 0 n0))) (en (hv (a1.extract 0 n1))) (en (hv (a2.extract 0 n2))) (en (hv (a0.extract 0 n0 ++ a1.extract 0 n1)))
    (en (hv (a1.extract 0 n1 ++ a2.extract 0 n2))) (en (hv (a0.extract 0 n0 ++ a1.extract 0 n1 ++ a2.extract 0 n2))) ?_ ?_ ?_ ?_ ?_ ?_ ?_ ?_ ?_ ?_ ?_
  · exact fun w => billetlaw02_awake.calls 10 true w (awake_yes 10 (by omega))
  · exact sum_gives _ (by omega)
  · exact sum_gives _ (by omega)
  · exact sum_gives _ (by omega)
  · exact join_gives _ _ _ (by omega) (by omega)
  · exact join_gives _ _ _ (by omega) (by omega)
  · exact join_gives _ _ _ (by omega) (by omega)
  · rw [ByteArray.append_assoc]; exact join_gives _ _ _ (by rw [ByteArray.size_append]; omega) (by rw [ByteArray.size_append]; omega)
  · exact sum_gives _ (by rw [ByteArray.size_append, ByteArray.size_append]; omega)
  · have := join_gives ByteArray.empty (a0.extract 0 n0) n0 (by omega) (by omega)
    rwa [ByteArray.empty_append, o] at this
  · have := join_gives (a0.extract 0 n0) ByteArray.empty 0 rfl (by decide)
    rwa [ByteArray.append_empty, o] at this
end Go.Proofs.Ytdcjakcbghokjaa.Groups
