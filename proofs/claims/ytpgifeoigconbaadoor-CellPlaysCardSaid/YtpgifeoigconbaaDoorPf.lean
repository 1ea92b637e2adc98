/- billetlaw16.Fit in plain lists: raw binds in order. -/
import Derived.Test.YtpgifeoigconbaaDoorRt
import Derived.Test.YtpgifeoigconbaaDoorQx55
import Derived.Test.YtpgifeoigconbaaDoorQx51
namespace Go.Proofs.YtpgifeoigconbaaDoor.Rt
set_option linter.unusedVariables false
set_option linter.unusedSimpArgs false
open Go.RowKit Go.Proofs.YtpgifeoigconbaaDoorW.PrintWords Go.Proofs.YtpgifeoigconbaaDoorW.PrintLast Go.Proofs.YtpgifeoigconbaaDoor.Mo Go.Proofs.YtpgifeoigconbaaDoor.Q Go.Proofs.YtpgifeoigconbaaDoor.Nm Go.Proofs.YtpgifeoigconbaaDoor.Gn Go.Proofs.YtpgifeoigconbaaDoor.Sl
/-- which of n things a raw number speaks of -/
def pk (a n : Int) : Int := if a < 0 then Int.tmod (wrap64 (-(wrap64 (a + 1)))) n else Int.tmod a n
theorem pk16 (a n : Int) (hn : n ≠ 0) : billetlaw16_pick.f a n = some (pk a n) := by unfold billetlaw16_pick.f pk; rw [if_neg hn, if_neg hn]; split <;> rfl
theorem pk08 (a n : Int) (hn : n ≠ 0) : billetlaw08_pick.f a n = some (pk a n) := by unfold billetlaw08_pick.f pk; rw [if_neg hn, if_neg hn]; split <;> rfl
theorem pk18 (a n : Int) (hn : n ≠ 0) : billetlaw18_pick.f a n = some (pk a n) := by unfold billetlaw18_pick.f pk; rw [if_neg hn, if_neg hn]; split <;> rfl
def I64 (a : Int) : Prop := -9223372036854775808 ≤ a ∧ a ≤ 9223372036854775807
theorem pk_in {a n : Int} (h : I64 a) (hn : 0 < n) : 0 ≤ pk a n ∧ pk a n < n := by
  obtain ⟨h1, h2⟩ := h
  unfold pk
  by_cases h : a < 0
  · rw [if_pos h]
    have e : wrap64 (-(wrap64 (a + 1))) = -(a + 1) := by unfold wrap64; omega
    rw [e, Int.tmod_eq_emod_of_nonneg (by omega)]
    exact ⟨Int.emod_nonneg _ (by omega), Int.emod_lt_of_pos _ hn⟩
  · rw [if_neg h, Int.tmod_eq_emod_of_nonneg (by omega)]
    exact ⟨Int.emod_nonneg _ (by omega), Int.emod_lt_of_pos _ hn⟩
def names8 : List ByteArray := [(⟨#[97]⟩ : ByteArray), (⟨#[98]⟩ : ByteArray), (⟨#[99]⟩ : ByteArray), (⟨#[100]⟩ : ByteArray), (⟨#[101]⟩ : ByteArray), (⟨#[102]⟩ : ByteArray), (⟨#[103]⟩ : ByteArray), (⟨#[104]⟩ : ByteArray)]
theorem name_size (j : Int) : (rdOf ByteArray.empty names8 j).size ≤ 1 := by
  unfold rdOf
  generalize j.toNat = n
  rcases (show n = 0 ∨ n = 1 ∨ n = 2 ∨ n = 3 ∨ n = 4 ∨ n = 5 ∨ n = 6 ∨ n = 7 ∨ 8 ≤ n from by omega) with h | h | h | h | h | h | h | h | h
  all_goals first | (subst h; decide) | (rw [List.getD_eq_getElem?_getD, List.getElem?_eq_none (by simpa [names8] using h)]; decide)
/-- one raw number as a bind -/
def bind1 (a : Int) : S35 := ⟨(⟨#[119]⟩ : ByteArray) ++ rdOf ByteArray.empty names8 (Int.tmod (pk a 1048576) 8), (⟨#[110]⟩ : ByteArray) ++ rdOf ByteArray.empty names8 (Int.tmod (wrap64 (Int.tdiv (pk a 1048576) 8)) 8), Int.tmod (wrap64 (Int.tdiv (pk a 1048576) 64)) 5⟩
theorem binds_l (l : List Int) (hl : ∀ x ∈ l, I64 x) : ∀ (d i k : Nat) (acc : List S35), i + d = min l.length 20 → d + 2 ≤ k → acc.length + d ≤ 1000 → billetlaw08_Binds.l0 k l acc names8 (i : Int) = some (acc ++ ((l.take 20).drop i).map bind1)
  | 0, i, k, acc, h1, h2, h3 => by
    obtain ⟨k, rfl⟩ : ∃ m, k = m + 1 := ⟨k - 1, by omega⟩
    have e : (l.take 20).drop i = [] := List.drop_eq_nil_of_le (by rw [List.length_take]; omega)
    rw [billetlaw08_Binds.l0, e]
    by_cases h : (i : Int) < (l.length : Int)
    · rw [if_pos h, if_neg (by omega)]; simp
    · rw [if_neg h]; simp
  | d + 1, i, k, acc, h1, h2, h3 => by
    obtain ⟨k, rfl⟩ : ∃ m, k = m + 1 := ⟨k - 1, by omega⟩
    have hi : i < l.length := by omega
    have e : (l.take 20).drop i = l[i] :: (l.take 20).drop (i + 1) := by
      rw [List.drop_eq_getElem_cons (by rw [List.length_take]; omega)]
      congr 1
      exact List.getElem_take
    have hr : rd l (i : Int) = l[i] := by unfold rd; rw [Int.toNat_natCast, List.getD_eq_getElem?_getD, List.getElem?_eq_getElem hi]; rfl
    have hm := hl l[i] (List.getElem_mem hi)
    obtain ⟨p1, p2⟩ := pk_in hm (show (0 : Int) < 1048576 by decide)
    have ih := binds_l l hl d (i + 1) k (acc ++ [bind1 l[i]]) (by omega) (by omega) (by rw [List.length_append, List.length_singleton]; omega)
    have n8 : (names8.length : Int) = 8 := rfl
    have q1 : 0 ≤ Int.tmod (pk l[i] 1048576) 8 ∧ Int.tmod (pk l[i] 1048576) 8 < 8 := by rw [Int.tmod_eq_emod_of_nonneg p1]; omega
    have q2 : 0 ≤ Int.tmod (wrap64 (Int.tdiv (pk l[i] 1048576) 8)) 8 ∧ Int.tmod (wrap64 (Int.tdiv (pk l[i] 1048576) 8)) 8 < 8 := by
      rw [Int.tdiv_eq_ediv_of_nonneg p1]
      have : wrap64 (pk l[i] 1048576 / 8) = pk l[i] 1048576 / 8 := by unfold wrap64; omega
      rw [this, Int.tmod_eq_emod_of_nonneg (by omega)]; omega
    have s1 := name_size (Int.tmod (pk l[i] 1048576) 8)
    have s2 := name_size (Int.tmod (wrap64 (Int.tdiv (pk l[i] 1048576) 8)) 8)
    rw [billetlaw08_Binds.l0, if_pos (by omega), if_pos (by omega), if_pos (by omega), hr, pk08 _ _ (by decide), Option.bind_some, if_pos q1.1, if_pos (by rw [n8]; exact q1.2), if_pos (by omega), if_pos q2.1, if_pos (by rw [n8]; exact q2.2), if_pos (by omega), if_pos (by omega), wrapS i (by omega)]
    rw [show acc ++ [(⟨(⟨#[119]⟩ : ByteArray) ++ rdOf ByteArray.empty names8 (Int.tmod (pk l[i] 1048576) 8), (⟨#[110]⟩ : ByteArray) ++ rdOf ByteArray.empty names8 (Int.tmod (wrap64 (Int.tdiv (pk l[i] 1048576) 8)) 8), Int.tmod (wrap64 (Int.tdiv (pk l[i] 1048576) 64)) 5⟩ : S35)] = acc ++ [bind1 l[i]] from rfl, ih, e]
    simp
def rawS (l : List Int) : List S35 := (l.take 20).map bind1
theorem binds_eq (l : List Int) (hl : ∀ x ∈ l, I64 x) : billetlaw08_Binds.f 30 l = some (rawS l) := by
  have := binds_l l hl (min l.length 20) 0 30 [] (by omega) (by omega) (by simp; omega)
  exact this
theorem rawS_len (l : List Int) : (rawS l).length ≤ 20 := by unfold rawS; rw [List.length_map, List.length_take]; omega
/-! ### the place of a bind among others -/
def samekey (x b : S35) : Bool := decide (x.f0.toList = b.f0.toList) && decide (x.f1.toList = b.f1.toList)
/-- whether x stands at b's place or behind it -/
def geqS (x b : S35) : Bool := if Op.bytesLess b.f0.toList x.f0.toList = true then true else if x.f0.toList = b.f0.toList then !(Op.bytesLess x.f1.toList b.f1.toList) else false
def keepS (x b : S35) : List S35 := if samekey x b then [] else [x]
def ins1 (b : S35) : Bool → List S35 → List S35
  | put, [] => if put then [] else [b]
  | put, x :: xs => if !put && geqS x b then b :: (keepS x b ++ ins1 b true xs) else keepS x b ++ ins1 b put xs
theorem keepS_len (x b : S35) : (keepS x b).length ≤ 1 := by unfold keepS; split <;> simp
theorem ins1_len (b : S35) : ∀ (put : Bool) (xs : List S35), (ins1 b put xs).length ≤ xs.length + (if put then 0 else 1)
  | put, [] => by cases put <;> simp [ins1]
  | put, x :: xs => by
    have h0 := keepS_len x b
    have h1 := ins1_len b true xs
    have h2 := ins1_len b put xs
    unfold ins1
    cases put with
    | true => simp only [Bool.not_true, Bool.false_and, if_true, Bool.false_eq_true, if_false] at *; rw [List.length_append, List.length_cons]; omega
    | false =>
      simp only [Bool.not_false, Bool.true_and, if_true, Bool.false_eq_true, if_false] at *
      split
      · rw [List.length_cons, List.length_append, List.length_cons]; omega
      · rw [List.length_append, List.length_cons]; omega
theorem fit_j2 (k : Nat) (x6 out acc : List S35) (x7 i : Int) (g put : Bool) (h0 h1 h2 h3 h4 h5 : Int) (b x : S35) (hp : put = true → g = false) (ha : acc.length ≤ 1000) :
    billetlaw16_Fit.j2 (k + 1) x6 x7 acc put i g h0 h1 h2 h3 h4 h5 out b.f0 b.f1 b.f2 x.f0 x.f1 x.f2 =
      billetlaw16_Fit.l1 k x6 x7 (acc ++ (if g then b :: keepS x b else keepS x b)) (put || g) (wrap64 (i + 1)) h0 h1 h2 h3 h4 h5 out b.f0 b.f1 b.f2 := by
  rw [billetlaw16_Fit.j2]
  unfold keepS samekey
  cases g with
  | true =>
    obtain rfl : put = false := by cases put; rfl; cases hp rfl
    rw [if_pos rfl, if_pos (by omega), Option.bind_some]
    by_cases e1 : x.f0.toList = b.f0.toList
    · by_cases e2 : x.f1.toList = b.f1.toList
      · rw [if_pos e1, if_pos e2, decide_eq_true e1, decide_eq_true e2]; rfl
      · rw [if_pos e1, if_neg e2, if_pos (by simp; omega), decide_eq_true e1, decide_eq_false e2]; simp
    · rw [if_neg e1, if_pos (by simp; omega), decide_eq_false e1]; simp
  | false =>
    rw [if_neg (by decide)]
    by_cases e1 : x.f0.toList = b.f0.toList
    · by_cases e2 : x.f1.toList = b.f1.toList
      · rw [if_pos e1, if_pos e2, decide_eq_true e1, decide_eq_true e2]; simp
      · rw [if_pos e1, if_neg e2, if_pos (by omega), decide_eq_true e1, decide_eq_false e2]; simp
    · rw [if_neg e1, if_pos (by omega), decide_eq_false e1]; simp
theorem fit_l1 (x6 out : List S35) (x7 : Int) (h0 h1 h2 h3 h4 h5 : Int) (b : S35) (ho : out.length ≤ 100) : ∀ (d i k : Nat) (put : Bool) (acc : List S35), i + d = out.length → acc.length + 2 * d + 2 ≤ 1000 →
    billetlaw16_Fit.l1 (k + 2 * d + 1) x6 x7 acc put (i : Int) h0 h1 h2 h3 h4 h5 out b.f0 b.f1 b.f2 = billetlaw16_Fit.l0 k x6 (wrap64 (x7 + 1)) h0 h1 h2 h3 h4 h5 (acc ++ ins1 b put (out.drop i))
  | 0, i, k, put, acc, e, ha => by
    rw [billetlaw16_Fit.l1, if_neg (by omega), List.drop_eq_nil_of_le (by omega)]
    cases put
    · rw [if_neg (by decide), if_pos (by omega)]; rfl
    · rw [if_pos rfl]; simp [ins1]
  | d + 1, i, k, put, acc, e, ha => by
    have hi : i < out.length := by omega
    have hd : out.drop i = out[i] :: out.drop (i + 1) := List.drop_eq_getElem_cons hi
    have hr : rd_T35 out (i : Int) = out[i] := by rw [at_eq]; unfold at35; rw [List.getD_eq_getElem?_getD, List.getElem?_eq_getElem hi]; rfl
    have hk : ∀ g, (acc ++ (if g = true then b :: keepS out[i] b else keepS out[i] b)).length ≤ acc.length + 2 := fun g => by
      have := keepS_len out[i] b
      cases g <;> simp <;> omega
    have key : ∀ g : Bool, (put = true → g = false) → billetlaw16_Fit.j2 (k + 2 * d + 1 + 1) x6 x7 acc put i g h0 h1 h2 h3 h4 h5 out b.f0 b.f1 b.f2 out[i].f0 out[i].f1 out[i].f2 = billetlaw16_Fit.l0 k x6 (wrap64 (x7 + 1)) h0 h1 h2 h3 h4 h5 (acc ++ ((if g = true then b :: keepS out[i] b else keepS out[i] b) ++ ins1 b (put || g) (out.drop (i + 1)))) := fun g hg => by
      have hh := hk g
      rw [fit_j2 _ _ _ _ _ _ _ _ _ _ _ _ _ _ _ _ hg (by omega), wrapS i (by omega), fit_l1 x6 out x7 h0 h1 h2 h3 h4 h5 b ho d (i + 1) k (put || g) _ (by omega) (by omega), List.append_assoc]
    rw [show k + 2 * (d + 1) + 1 = (k + 2 * d + 1 + 1) + 1 by omega, billetlaw16_Fit.l1, if_pos (by omega), if_pos (by omega), hr, hd]
    cases put with
    | true =>
      rw [if_pos rfl, key false (fun _ => rfl)]
      simp [ins1]
    | false =>
      rw [if_neg (by decide)]
      unfold ins1 geqS
      by_cases c1 : Op.bytesLess b.f0.toList out[i].f0.toList = true
      · rw [if_pos c1, if_pos c1, key true (fun h => by cases h)]; simp
      · rw [if_neg c1, if_neg c1]
        by_cases c2 : out[i].f0.toList = b.f0.toList
        · rw [if_pos c2, if_pos c2, key _ (fun h => by cases h)]
          cases (Op.bytesLess out[i].f1.toList b.f1.toList) <;> simp
        · rw [if_neg c2, if_neg c2, key false (fun _ => rfl)]; simp
/-- one count more -/
def more1 (b : S35) : S35 := ⟨b.f0, b.f1, wrap64 (b.f2 + 1)⟩
theorem fit_l0 (x6 : List S35) (hx : x6.length ≤ 20) (h0 h1 h2 h3 h4 h5 : Int) : ∀ (d j : Nat) (out : List S35), j + d = x6.length → out.length ≤ j →
    ∃ k, billetlaw16_Fit.l0 k x6 (j : Int) h0 h1 h2 h3 h4 h5 out = some (h0, h1, h2, h3, h4, h5, (x6.drop j).foldl (fun o b => ins1 (more1 b) false o) out)
  | 0, j, out, e, ho => ⟨1, by rw [billetlaw16_Fit.l0, if_neg (by omega), List.drop_eq_nil_of_le (by omega)]; rfl⟩
  | d + 1, j, out, e, ho => by
    have hj : j < x6.length := by omega
    have hd : x6.drop j = x6[j] :: x6.drop (j + 1) := List.drop_eq_getElem_cons hj
    have hr : rd_T35 x6 (j : Int) = x6[j] := by rw [at_eq]; unfold at35; rw [List.getD_eq_getElem?_getD, List.getElem?_eq_getElem hj]; rfl
    have hl := ins1_len (more1 x6[j]) false out
    obtain ⟨k, hk⟩ := fit_l0 x6 hx h0 h1 h2 h3 h4 h5 d (j + 1) (ins1 (more1 x6[j]) false out) (by omega) (by simp at hl; omega)
    refine ⟨k + 2 * out.length + 1 + 1, ?_⟩
    have := fit_l1 x6 out (j : Int) h0 h1 h2 h3 h4 h5 (more1 x6[j]) (by omega) out.length 0 k false [] (by omega) (by simp; omega)
    rw [billetlaw16_Fit.l0, if_pos (by omega), if_pos (by omega), hr, hd, List.foldl_cons]
    rw [show (0 : Int) = ((0 : Nat) : Int) from rfl]
    refine this.trans ?_
    rw [wrapS j (by omega), List.drop_zero, List.nil_append]
    exact hk
/-- raw binds, right -/
def fbS (l : List Int) : List S35 := (rawS l).foldl (fun o b => ins1 (more1 b) false o) []
theorem fit16 (l : List Int) (hl : ∀ x ∈ l, I64 x) : ∃ k, billetlaw16_Fit.f k 0 0 0 0 0 0 [] l = some (1, 0, 0, 0, 0, -1000, fbS l) := by
  obtain ⟨k, hk⟩ := fit_l0 (rawS l) (rawS_len l) 1 0 0 0 0 (-1000) (rawS l).length 0 [] (by omega) (Nat.le_refl _)
  obtain ⟨K, h1, h2⟩ := together (g := fun k => billetlaw08_Binds.f k l) (f := fun k => billetlaw16_Fit.l0 k (rawS l) 0 1 0 0 0 0 (-1000) []) (fun k => billetlaw08_Binds.mono l k) (fun k => (billetlaw16_Fit.mono_l k).1 _ _ _ _ _ _ _ _ _) ⟨30, binds_eq l hl⟩ ⟨k, hk⟩
  refine ⟨K, ?_⟩
  unfold billetlaw16_Fit.f
  rw [pk16 _ _ (by decide), pk16 _ _ (by decide), pk16 _ _ (by decide), pk16 _ _ (by decide), Option.bind_some, Option.bind_some, Option.bind_some, Option.bind_some, Option.bind_some]
  simp only [h1, Option.bind_some]
  have z : ∀ n : Int, pk 0 n = 0 := fun n => by unfold pk; rw [if_neg (by decide), Int.zero_tmod]
  rw [z, z, z, z, show wrap64 (1 + 0) = 1 from by unfold wrap64; rfl, show wrap64 (0 - 1000) = -1000 from by unfold wrap64; rfl]
  exact h2
end Go.Proofs.YtpgifeoigconbaaDoor.Rt
