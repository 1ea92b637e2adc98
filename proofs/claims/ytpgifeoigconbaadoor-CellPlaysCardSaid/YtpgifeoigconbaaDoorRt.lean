/- msg.Right computes a plain answer. -/
import Derived.Test.YtpgifeoigconbaaDoorSl
import Derived.Test.YtpgifeoigconbaaDoorQx30
import Derived.Test.YtpgifeoigconbaaDoorQx35
namespace Go.Proofs.YtpgifeoigconbaaDoor.Rt
set_option linter.unusedVariables false
set_option linter.unusedSimpArgs false
open Go.RowKit Go.Proofs.YtpgifeoigconbaaDoorW.PrintWords Go.Proofs.YtpgifeoigconbaaDoorW.PrintLast Go.Proofs.YtpgifeoigconbaaDoor.Mo Go.Proofs.YtpgifeoigconbaaDoor.Q Go.Proofs.YtpgifeoigconbaaDoor.Nm Go.Proofs.YtpgifeoigconbaaDoor.Gn Go.Proofs.YtpgifeoigconbaaDoor.Sl
/-- one bind may be -/
def okB (x : S35) : Bool := nm x.f0 && (nm x.f1 && (decide (1 ≤ x.f2) && decide (x.f2 ≤ 1000)))
/-- one stands ahead of another one -/
def ahd (a b : S35) : Bool := if Op.bytesLess a.f0.toList b.f0.toList then true else if Op.bytesLess b.f0.toList a.f0.toList then false else Op.bytesLess a.f1.toList b.f1.toList
def at35 (l : List S35) (i : Nat) : S35 := l.getD i z35
def good (l : List S35) (i : Nat) : Bool := okB (at35 l i) && (decide (i = 0) || ahd (at35 l (i - 1)) (at35 l i))
def goods (l : List S35) (i : Nat) : Nat → Bool
  | 0 => true
  | d + 1 => good l i && goods l (i + 1) d
def ranges (a0 a1 a2 a3 a4 a5 : Int) : Bool := (decide (a0 = 1 ∨ a0 = 2)) && ((decide (0 ≤ a1 ∧ a1 ≤ 2)) && ((decide (0 ≤ a2 ∧ a2 ≤ 1099511627776)) && ((decide (0 ≤ a3 ∧ a3 ≤ 1099511627776)) && ((decide (0 ≤ a4 ∧ a4 ≤ 1099511627776)) && (decide (-2199023255552 ≤ a5 ∧ a5 ≤ 2199023255552))))))
/-- whether a message may be -/
def rightS (a0 a1 a2 a3 a4 a5 : Int) (l : List S35) : Bool := ranges a0 a1 a2 a3 a4 a5 && (decide (l.length ≤ 64) && goods l 0 l.length)
/-! ### rise -/
def cmpZ (a b : ByteArray) : Int := if Op.bytesLess a.toList b.toList = true then -1 else if Op.bytesLess b.toList a.toList = true then 1 else 0
theorem compare_eq (a b : ByteArray) : cmp_Compare_string.f a b = some (cmpZ a b) := by
  unfold cmp_Compare_string.f cmp_isNaN_string.f cmpZ
  simp only [Option.bind_some, bne_self_eq_false, Bool.false_eq_true, if_false]
  split
  · rfl
  · split <;> rfl
theorem or_eq (k : Nat) (c d : Int) : cmp_Or_int.f (k + 3) [c, d] = some (if c = 0 then d else c) := by
  have e0 : rd [c, d] 0 = c := rfl
  have e1 : rd [c, d] 1 = d := rfl
  have w1 : wrap64 (0 + 1) = 1 := by unfold wrap64; rfl
  have w2 : wrap64 (1 + 1) = 2 := by unfold wrap64; rfl
  unfold cmp_Or_int.f
  unfold cmp_Or_int.l0
  rw [e0, w1]
  by_cases hc : c = 0
  · subst hc
    unfold cmp_Or_int.l0
    rw [e1, w2]
    by_cases hd : d = 0
    · subst hd
      unfold cmp_Or_int.l0
      simp
    · simp [hd]
  · simp [hc]
theorem rise_eq (k : Nat) (a b : S35) : msg_rise.f (k + 3) a.f0 a.f1 a.f2 b.f0 b.f1 b.f2 = some (ahd a b) := by
  unfold msg_rise.f
  rw [compare_eq, compare_eq]
  simp only [Option.bind_some]
  rw [or_eq]
  simp only [Option.bind_some]
  congr 1
  unfold ahd cmpZ
  by_cases h1 : Op.bytesLess a.f0.toList b.f0.toList = true
  · rw [if_pos h1, if_pos h1, if_neg (by decide)]; rfl
  · rw [if_neg h1, if_neg h1]
    by_cases h2 : Op.bytesLess b.f0.toList a.f0.toList = true
    · rw [if_pos h2, if_pos h2, if_neg (by decide)]; rfl
    · rw [if_neg h2, if_neg h2, if_pos rfl]
      by_cases h3 : Op.bytesLess a.f1.toList b.f1.toList = true
      · rw [if_pos h3, h3]; rfl
      · rw [if_neg h3, (Bool.not_eq_true _).mp h3]
        split <;> rfl
/-! ### msg.Right -/
theorem within_eq (a lo hi : Int) : msg_within.f a lo hi = some (decide (lo ≤ a ∧ a ≤ hi)) := by
  unfold msg_within.f
  by_cases h : a ≥ lo
  · rw [if_pos h]; congr 1; rw [Bool.eq_iff_iff, decide_eq_true_eq, decide_eq_true_eq]; omega
  · rw [if_neg h, decide_eq_false (by omega)]
theorem wrapS (i : Nat) (h : i + 1 ≤ 9223372036854775807) : wrap64 ((i : Int) + 1) = ((i + 1 : Nat) : Int) := by unfold wrap64; omega
theorem wrapP (i : Nat) (h : 0 < i) (h2 : i ≤ 9223372036854775807) : wrap64 ((i : Int) - 1) = ((i - 1 : Nat) : Int) := by unfold wrap64; omega
theorem at_eq (l : List S35) (i : Nat) : rd_T35 l (i : Int) = at35 l i := by unfold rd_T35 at35; rw [Int.toNat_natCast]
theorem ranges_eq (a0 a1 a2 a3 a4 a5 : Int) : ((msg_within.f a0 1 2).bind fun t123 => (if t123 = true then ((msg_within.f a1 0 2).bind fun t124 => (if t124 = true then ((msg_within.f a2 0 1099511627776).bind fun t125 => (if t125 = true then ((msg_within.f a3 0 1099511627776).bind fun t126 => (if t126 = true then ((msg_within.f a4 0 1099511627776).bind fun t127 => (if t127 = true then ((msg_within.f a5 (-2199023255552) 2199023255552).bind fun t128 => (some t128)) else (some false))) else (some false))) else (some false))) else (some false))) else (some false))) = some (ranges a0 a1 a2 a3 a4 a5) := by
  unfold ranges
  have e0 : decide (a0 = 1 ∨ a0 = 2) = decide (1 ≤ a0 ∧ a0 ≤ 2) := by rw [Bool.eq_iff_iff, decide_eq_true_eq, decide_eq_true_eq]; omega
  rw [e0]
  simp only [within_eq, Option.bind_some]
  cases decide (1 ≤ a0 ∧ a0 ≤ 2) <;> cases decide (0 ≤ a1 ∧ a1 ≤ 2) <;> cases decide (0 ≤ a2 ∧ a2 ≤ 1099511627776) <;> cases decide (0 ≤ a3 ∧ a3 ≤ 1099511627776) <;> cases decide (0 ≤ a4 ∧ a4 ≤ 1099511627776) <;> cases decide (-2199023255552 ≤ a5 ∧ a5 ≤ 2199023255552) <;> rfl
theorem mright (l : List S35) (hl : l.length ≤ 9223372036854775807) (a0 a1 a2 a3 a4 a5 : Int) : ∀ (d i k : Nat), i + d = l.length → i ≤ 64 → d + 12 ≤ k → msg_Right.l0 k l (l.length : Int) (i : Int) a0 a1 a2 a3 a4 a5 l = some ((decide (l.length ≤ 64) && goods l i d) && ranges a0 a1 a2 a3 a4 a5)
  | 0, i, k, h1, h2, h3 => by
    obtain ⟨k, rfl⟩ : ∃ m, k = m + 1 := ⟨k - 1, by omega⟩
    unfold msg_Right.l0
    rw [if_neg (by omega), ranges_eq, decide_eq_true (show l.length ≤ 64 by omega)]
    rfl
  | d + 1, i, k, h1, h2, h3 => by
    obtain ⟨k, rfl⟩ : ∃ m, k = m + 4 := ⟨k - 4, by omega⟩
    have ih := mright l hl a0 a1 a2 a3 a4 a5 d (i + 1) (k + 3) (by omega)
    unfold msg_Right.l0
    rw [if_pos (by omega), if_pos (by omega), if_pos (by omega), at_eq]
    by_cases h64 : i = 64
    · rw [if_pos (by omega), decide_eq_false (show ¬ l.length ≤ 64 by omega)]; rfl
    · rw [if_neg (by omega)]
      replace ih := ih (by omega) (by omega)
      have hw := wrapS i (by omega)
      unfold goods good okB label_IsName.f
      simp only [Option.bind_some, within_eq]
      cases nm (at35 l i).f0 with
      | false => simp
      | true =>
        cases nm (at35 l i).f1 with
        | false => simp
        | true =>
          rw [if_pos rfl, if_pos rfl]
          by_cases hcnt : 1 ≤ (at35 l i).f2 ∧ (at35 l i).f2 ≤ 1000
          · rw [decide_eq_true hcnt, if_pos rfl, decide_eq_true hcnt.1, decide_eq_true hcnt.2]
            by_cases hi : i = 0
            · subst hi
              rw [if_neg (by decide), hw, ih]
              simp
            · have hp := wrapP i (by omega) (by omega)
              rw [if_pos (by omega), hp, if_pos (by omega), if_pos (by omega), at_eq]
              rw [rise_eq]
              simp only [Option.bind_some]
              rw [decide_eq_false hi]
              cases ahd (at35 l (i - 1)) (at35 l i) with
              | false => simp
              | true => rw [if_pos rfl, hw, ih]; simp
          · rw [decide_eq_false hcnt, if_neg (by decide)]
            have : (decide (1 ≤ (at35 l i).f2) && decide ((at35 l i).f2 ≤ 1000)) = false := by
              rw [← Bool.not_eq_true, Bool.and_eq_true, decide_eq_true_eq, decide_eq_true_eq]; exact hcnt
            rw [this]; simp
theorem msg_right_eq (l : List S35) (hl : l.length ≤ 9223372036854775807) (a0 a1 a2 a3 a4 a5 : Int) : msg_Right.f (l.length + 12) a0 a1 a2 a3 a4 a5 l = some (rightS a0 a1 a2 a3 a4 a5 l) := by
  unfold msg_Right.f rightS
  have := mright l hl a0 a1 a2 a3 a4 a5 l.length 0 (l.length + 12) (by omega) (by omega) (by omega)
  rw [show ((0 : Nat) : Int) = 0 from rfl] at this
  rw [this]
  congr 1
  rw [Bool.and_comm]
end Go.Proofs.YtpgifeoigconbaaDoor.Rt
