/- The plain theory of the sums (of the seat adler), over this seat's printed functions. -/
import Derived.Test.YtdgaancbeakfdaaDoorVrn
import Derived.Test.YtdgaancbeakfdaaDoorQy1
import Derived.Test.YtdgaancbeakfdaaDoorQy6
import Derived.Laws.BitsLemmas
namespace Go.Proofs.YtdgaancbeakfdaaDoor.Fad
open Go.RowKit Go.Proofs.YtdgaancbeakfdaaDoorW.PrintWords Go.Proofs.YtdgaancbeakfdaaDoorW.PrintLast Go.Proofs.YtdgaancbeakfdaaDoor.Mo Go.Proofs.YtdgaancbeakfdaaDoor.Num Go.Proofs.YtdgaancbeakfdaaDoor.Vth Go.Proofs.YtdgaancbeakfdaaDoor.Giv Go.Proofs.YtdgaancbeakfdaaDoor.Q Go.Proofs.YtdgaancbeakfdaaDoor.Vrd
/-! ### the plain theory of the two halves -/
def sm : List Int → Int
  | [] => 0
  | b :: l => b + sm l
def wt : List Int → Int
  | [] => 0
  | b :: l => b * ((l.length : Int) + 1) + wt l
def rn (lo hi : Int) : List Int → Int × Int
  | [] => (lo, hi)
  | b :: l => rn ((lo + b) % 65521) ((hi + (lo + b) % 65521) % 65521) l
/-- equal modulo 65521 -/
def eqm (a b : Int) : Prop := ∃ k, a = b + 65521 * k
theorem eqm_of {a b : Int} (h : a % 65521 = b % 65521) : eqm a b := ⟨(a - b) / 65521, by omega⟩
theorem eqm_to {a b : Int} (h : eqm a b) : a % 65521 = b % 65521 := by obtain ⟨k, rfl⟩ := h; omega
theorem eqm_md (a : Int) : ∃ k, a % 65521 = a + 65521 * k := ⟨-(a / 65521), by omega⟩
theorem sm_append (a b : List Int) : sm (a ++ b) = sm a + sm b := by
  induction a with
  | nil => simp [sm]
  | cons x l ih => simp [sm, ih]; omega
theorem wt_append (a b : List Int) : wt (a ++ b) = wt a + wt b + sm a * b.length := by
  induction a with
  | nil => simp [sm, wt]
  | cons x l ih => simp only [List.cons_append, wt, sm, ih, List.length_append, Int.natCast_add]; grind
theorem rn_append (a b : List Int) : ∀ lo hi, rn lo hi (a ++ b) = rn (rn lo hi a).1 (rn lo hi a).2 b := by
  induction a with
  | nil => intro lo hi; rfl
  | cons x l ih => intro lo hi; exact ih _ _
theorem rn_eq (l : List Int) : ∀ lo hi, 0 ≤ lo → lo < 65521 → 0 ≤ hi → hi < 65521 →
    rn lo hi l = ((lo + sm l) % 65521, (hi + l.length * lo + wt l) % 65521) := by
  induction l with
  | nil => intro lo hi h1 h2 h3 h4; simp [rn, sm, wt]; omega
  | cons b l ih =>
    intro lo hi h1 h2 h3 h4
    simp only [rn, sm, wt]
    rw [ih _ _ (by omega) (by omega) (by omega) (by omega)]
    obtain ⟨k, hk⟩ := eqm_md (lo + b)
    obtain ⟨m, hm⟩ := eqm_md (hi + (lo + b) % 65521)
    rw [hm, hk]
    congr 1
    · omega
    · apply eqm_to
      refine ⟨k + m + l.length * k, ?_⟩
      simp only [List.length_cons, Int.natCast_add]
      grind
theorem rn_bd (l : List Int) (lo hi : Int) (h1 : 0 ≤ lo) (h2 : lo < 65521) (h3 : 0 ≤ hi) (h4 : hi < 65521) :
    0 ≤ (rn lo hi l).1 ∧ (rn lo hi l).1 < 65521 ∧ 0 ≤ (rn lo hi l).2 ∧ (rn lo hi l).2 < 65521 := by
  rw [rn_eq l lo hi h1 h2 h3 h4]; dsimp only; omega
theorem tmod_pos (a : Int) (h : 0 ≤ a) : Int.tmod a 65521 = a % 65521 := Int.tmod_eq_emod_of_nonneg h
theorem tmod_neg (a : Int) (h : a < 0) : Int.tmod a 65521 = -((-a) % 65521) := by
  have : a = -(-a) := by omega
  rw [this, Int.neg_tmod, tmod_pos _ (by omega)]; omega
theorem rest_int (a : Int) (h1 : -9223372036854775808 ≤ a) (h2 : a ≤ 9223372036854775807) : adler_rest_int.f a = some (a % 65521) := by
  unfold adler_rest_int.f
  by_cases h : 0 ≤ a
  · rw [tmod_pos a h, if_neg (by omega)]
  · rw [tmod_neg a (by omega)]
    by_cases h0 : -((-a) % 65521) < 0
    · rw [if_pos h0, wrap_in _ (by omega) (by omega)]; congr 1; omega
    · rw [if_neg h0]; congr 1; omega
theorem rest_u32 (a : Int) (h1 : 0 ≤ a) (h2 : a < 4294967296) : adler_rest_uint32.f a = some (a % 65521) := by
  unfold adler_rest_uint32.f
  rw [wrap_in a (by omega) (by omega), tmod_pos a h1, if_neg (by omega)]
theorem wraps_u32' (n : Int) (h₀ : 0 ≤ n) (h₁ : n < 2 ^ 32) : IntKind.u32.wrap n = n := by rw [IntKind.wrap_u32]; omega
theorem and_low (a : Int) (h1 : 0 ≤ a) (h2 : a < 4294967296) : Go.bits .and .u32 a 65535 = a % 65536 :=
  bits_mask .u32 32 (by decide) wraps_u32' 16 (by decide) a h1 (by omega)
theorem or_join (a b : Int) (ha : 0 ≤ a) (hm : a % 65536 = 0) (h2 : a < 4294967296) (hb : 0 ≤ b) (hb2 : b < 65536) : Go.bits .or .u32 a b = a + b := by
  exact bits_join .u32 32 (by decide) wraps_u32' 16 a b ha hm (by omega) hb hb2 (by omega)
theorem of_eq (a : Int) (h1 : 0 ≤ a) (h2 : a < 4294967296) : adler_of.f a = some (a % 65536 % 65521, a / 65536 % 65521) := by
  unfold adler_of.f
  rw [and_low a h1 h2, rest_u32 _ (by omega) (by omega), Option.bind_some, rest_u32 _ (by omega) (by omega), Option.bind_some]
theorem sum_eq (lo hi : Int) (h1 : -9223372036854775808 ≤ lo) (h2 : lo ≤ 9223372036854775807) (h3 : -9223372036854775808 ≤ hi) (h4 : hi ≤ 9223372036854775807) :
    adler_pair_sum.f lo hi = some (hi % 65521 * 65536 + lo % 65521) := by
  unfold adler_pair_sum.f
  rw [rest_int hi h3 h4, Option.bind_some, rest_int lo h1 h2, Option.bind_some, or_join _ _ (by omega) (by omega) (by omega) (by omega) (by omega)]
  congr 1; omega
/-- a sum out of its halves -/
def en (p : Int × Int) : Int := p.2 * 65536 + p.1
theorem en_bd (p : Int × Int) (h1 : 0 ≤ p.1) (h2 : p.1 < 65521) (h3 : 0 ≤ p.2) (h4 : p.2 < 65521) : 0 ≤ en p ∧ en p < 4294967296 := by unfold en; omega
theorem en_low (p : Int × Int) (h1 : 0 ≤ p.1) (h2 : p.1 < 65521) (_ : 0 ≤ p.2) (_ : p.2 < 65521) : en p % 65536 % 65521 = p.1 := by unfold en; omega
theorem en_high (p : Int × Int) (h1 : 0 ≤ p.1) (h2 : p.1 < 65521) (h3 : 0 ≤ p.2) (h4 : p.2 < 65521) : en p / 65536 % 65521 = p.2 := by unfold en; omega
theorem add_l0 (s : ByteArray) (hs : (s.size : Int) ≤ 281474976710655) (d : Nat) : ∀ (k : Nat) (i : Nat) (lo hi : Int), i + d = s.size → d < k → 0 ≤ lo → lo < 65521 → 0 ≤ hi → hi < 65521 →
    adler_Add.l0 k s (s.size : Int) (i : Int) lo hi = some (en (rn lo hi ((bytesOf s).drop i))) := by
  induction d with
  | zero =>
    intro k i lo hi hd hk h1 h2 h3 h4
    obtain ⟨k, rfl⟩ : ∃ m, k = m + 1 := ⟨k - 1, by omega⟩
    simp only [adler_Add.l0]
    rw [if_neg (by omega), sum_eq _ _ (by omega) (by omega) (by omega) (by omega), List.drop_of_length_le (by rw [bytesOf_length]; omega)]
    simp only [Option.bind_some, rn, en]; congr 1; omega
  | succ d ih =>
    intro k i lo hi hd hk h1 h2 h3 h4
    obtain ⟨k, rfl⟩ : ∃ m, k = m + 1 := ⟨k - 1, by omega⟩
    have hb := bt_range s i
    simp only [adler_Add.l0]
    rw [if_pos (by omega), if_pos (by omega), if_pos (by omega), wrap_in (bt s i) (by omega) (by omega), wrap_in _ (by omega) (by omega), rest_int _ (by omega) (by omega)]
    simp only [Option.bind_some]
    rw [wrap_in (hi + _) (by omega) (by omega), rest_int _ (by omega) (by omega)]
    simp only [Option.bind_some]
    rw [wrap_in (i + 1) (by omega) (by omega), show ((i : Int) + 1) = ((i + 1 : Nat) : Int) by omega,
      ih k (i + 1) _ _ (by omega) (by omega) (by omega) (by omega) (by omega) (by omega), drop_step s i (by omega)]
    rfl
theorem add_eq (k : Nat) (a : Int) (s : ByteArray) (hs : (s.size : Int) ≤ 281474976710655) (hk : s.size < k) (h1 : 0 ≤ a) (h2 : a < 4294967296) :
    adler_Add.f k a s = some (en (rn (a % 65536 % 65521) (a / 65536 % 65521) (bytesOf s))) := by
  unfold adler_Add.f
  rw [of_eq a h1 h2, Option.bind_some]
  have := add_l0 s hs s.size k 0 (a % 65536 % 65521) (a / 65536 % 65521) (by omega) hk (by omega) (by omega) (by omega) (by omega)
  simpa using this
/-- a text's two halves -/
def hv (s : ByteArray) : Int × Int := rn 1 0 (bytesOf s)
theorem hv_eq (s : ByteArray) : hv s = ((1 + sm (bytesOf s)) % 65521, (s.size + wt (bytesOf s)) % 65521) := by
  unfold hv; rw [rn_eq _ 1 0 (by omega) (by omega) (by omega) (by omega), bytesOf_length]; congr 2; omega
theorem hv_bd (s : ByteArray) : 0 ≤ (hv s).1 ∧ (hv s).1 < 65521 ∧ 0 ≤ (hv s).2 ∧ (hv s).2 < 65521 := rn_bd _ _ _ (by omega) (by omega) (by omega) (by omega)
theorem Sum_eq (k : Nat) (s : ByteArray) (hs : (s.size : Int) ≤ 281474976710655) (hk : s.size < k) : adler_Sum.f k s = some (en (hv s)) := by
  unfold adler_Sum.f
  rw [add_eq k 1 s hs hk (by omega) (by omega)]; rfl
theorem int64_bd {a : Int} (h : (Lit.int .i64 a).wf = true) : -9223372036854775808 ≤ a ∧ a ≤ 9223372036854775807 := by
  simp [Lit.wf, IntKind.min, IntKind.max, IntKind.bits, IntKind.signed] at h; omega
theorem u32_bd {a : Int} (h : (Lit.int .u32 a).wf = true) : 0 ≤ a ∧ a < 4294967296 := by
  simp [Lit.wf, IntKind.min, IntKind.max, IntKind.bits, IntKind.signed] at h; omega
theorem u8_bd {a : Int} (h : (Lit.int .u8 a).wf = true) : 0 ≤ a ∧ a ≤ 255 := by
  simp [Lit.wf, IntKind.min, IntKind.max, IntKind.bits, IntKind.signed] at h; omega

theorem halves_eq (a : Int) (h1 : 0 ≤ a) (h2 : a < 4294967296) : billetref02_halves.f a = some (a % 65536 % 65521, a / 65536 % 65521) := by
  unfold billetref02_halves.f
  rw [wrap_in a (by omega) (by omega), Int.tmod_eq_emod_of_nonneg h1, Int.tdiv_eq_ediv_of_nonneg h1, wrap_in _ (by omega) (by omega), tmod_pos _ (by omega), tmod_pos _ (by omega)]
theorem mod_again (a : Int) (h1 : -9223372036854775808 ≤ a) (h2 : a ≤ 9223372036854775807) : Int.tmod (wrap64 (Int.tmod a 65521 + 65521)) 65521 = a % 65521 := by
  by_cases h : 0 ≤ a
  · rw [tmod_pos a h, wrap_in _ (by omega) (by omega), tmod_pos _ (by omega)]; omega
  · rw [tmod_neg a (by omega), wrap_in _ (by omega) (by omega), tmod_pos _ (by omega)]; omega
theorem made_eq (lo hi : Int) (h1 : -9223372036854775808 ≤ lo) (h2 : lo ≤ 9223372036854775807) (h3 : -9223372036854775808 ≤ hi) (h4 : hi ≤ 9223372036854775807) :
    billetref02_made.f lo hi = some (hi % 65521 * 65536 + lo % 65521) := by
  unfold billetref02_made.f
  rw [mod_again lo h1 h2, mod_again hi h3 h4, wrap_in (65536 * _) (by omega) (by omega), wrap_in _ (by omega) (by omega)]
  congr 1; omega
theorem radd_l0 (s : ByteArray) (hs : (s.size : Int) ≤ 281474976710655) (d : Nat) : ∀ (k : Nat) (i : Nat) (lo hi : Int), i + d = s.size → d < k → 0 ≤ lo → lo < 65521 → 0 ≤ hi → hi < 65521 →
    billetref02_Add.l0 k s lo hi (i : Int) = some (en (rn lo hi ((bytesOf s).drop i))) := by
  induction d with
  | zero =>
    intro k i lo hi hd hk h1 h2 h3 h4
    obtain ⟨k, rfl⟩ : ∃ m, k = m + 1 := ⟨k - 1, by omega⟩
    simp only [billetref02_Add.l0]
    rw [if_neg (by omega), made_eq _ _ (by omega) (by omega) (by omega) (by omega), List.drop_of_length_le (by rw [bytesOf_length]; omega)]
    simp only [Option.bind_some, rn, en]; congr 1; omega
  | succ d ih =>
    intro k i lo hi hd hk h1 h2 h3 h4
    obtain ⟨k, rfl⟩ : ∃ m, k = m + 1 := ⟨k - 1, by omega⟩
    have hb := bt_range s i
    simp only [billetref02_Add.l0]
    rw [if_pos (by omega), if_pos (by omega), wrap_in (bt s i) (by omega) (by omega), wrap_in (lo + _) (by omega) (by omega), tmod_pos _ (by omega), wrap_in (hi + _) (by omega) (by omega), tmod_pos _ (by omega),
      wrap_in (i + 1) (by omega) (by omega), show ((i : Int) + 1) = ((i + 1 : Nat) : Int) by omega,
      ih k (i + 1) _ _ (by omega) (by omega) (by omega) (by omega) (by omega) (by omega), drop_step s i (by omega)]
    rfl
theorem radd_eq (k : Nat) (a : Int) (s : ByteArray) (hs : (s.size : Int) ≤ 281474976710655) (hk : s.size < k) (h1 : 0 ≤ a) (h2 : a < 4294967296) :
    billetref02_Add.f k a s = some (en (rn (a % 65536 % 65521) (a / 65536 % 65521) (bytesOf s))) := by
  unfold billetref02_Add.f
  rw [halves_eq a h1 h2, Option.bind_some]
  have := radd_l0 s hs s.size k 0 (a % 65536 % 65521) (a / 65536 % 65521) (by omega) hk (by omega) (by omega) (by omega) (by omega)
  simpa using this
theorem rSum_eq (k : Nat) (s : ByteArray) (hs : (s.size : Int) ≤ 281474976710655) (hk : s.size < k) : billetref02_Sum.f k s = some (en (hv s)) := by
  unfold billetref02_Sum.f
  rw [radd_eq k 1 s hs hk (by omega) (by omega)]; rfl
end Go.Proofs.YtdgaancbeakfdaaDoor.Fad
