/- The document's Right computes the same plain answer. -/
import Derived.Test.YtpgifeoigconbaaDoorRt
import Derived.Test.YtpgifeoigconbaaDoorQx45
namespace Go.Proofs.YtpgifeoigconbaaDoor.Rt
set_option linter.unusedVariables false
set_option linter.unusedSimpArgs false
open Go.RowKit Go.Proofs.YtpgifeoigconbaaDoorW.PrintWords Go.Proofs.YtpgifeoigconbaaDoorW.PrintLast Go.Proofs.YtpgifeoigconbaaDoor.Mo Go.Proofs.YtpgifeoigconbaaDoor.Q Go.Proofs.YtpgifeoigconbaaDoor.Nm Go.Proofs.YtpgifeoigconbaaDoor.Gn Go.Proofs.YtpgifeoigconbaaDoor.Sl
/-! ### the document's Right -/
theorem letter_eq (b : UInt8) : letters.contains b = ((decide (97 ≤ b.toNat) && decide (b.toNat ≤ 122)) || (decide (48 ≤ b.toNat) && decide (b.toNat ≤ 57))) := by
  have h : ∀ n : Nat, n < 256 → letters.contains (UInt8.ofNat n) = ((decide (97 ≤ n) && decide (n ≤ 122)) || (decide (48 ≤ n) && decide (n ≤ 57))) := by decide +kernel
  have h2 := h b.toNat (UInt8.toNat_lt b)
  rwa [UInt8.ofNat_toNat] at h2
theorem byte_at (s : ByteArray) (i : Nat) (h : i < s.size) : ∃ b : UInt8, s.data.toList[i]? = some b ∧ bt s (i : Int) = (b.toNat : Int) := by
  refine ⟨s[i], ?_, ?_⟩
  · rw [Array.getElem?_toList, Array.getElem?_eq_getElem h]; rfl
  · have := bt_at s (i : Int) (by rw [Int.toNat_natCast]; exact h)
    rw [← this]; simp
theorem isname_l (s : ByteArray) (hs : s.size ≤ 12) : ∀ (d i k : Nat), i + d = s.size → d + 2 ≤ k → billetref04_IsName.l0 k s (i : Int) = some ((s.data.toList.drop i).all (letters.contains ·))
  | 0, i, k, h1, h2 => by
    obtain ⟨k, rfl⟩ : ∃ m, k = m + 1 := ⟨k - 1, by omega⟩
    unfold billetref04_IsName.l0
    rw [if_neg (by omega), List.drop_eq_nil_of_le (by rw [Array.length_toList]; show s.size ≤ i; omega)]
    rfl
  | d + 1, i, k, h1, h2 => by
    obtain ⟨k, rfl⟩ : ∃ m, k = m + 1 := ⟨k - 1, by omega⟩
    have ih := isname_l s hs d (i + 1) k (by omega) (by omega)
    obtain ⟨b, hb, hbt⟩ := byte_at s i (by omega)
    have hd : s.data.toList.drop i = b :: s.data.toList.drop (i + 1) := by
      have hlt : i < s.data.toList.length := by rw [Array.length_toList]; show i < s.size; omega
      rw [List.drop_eq_getElem_cons hlt]
      rw [List.getElem?_eq_getElem hlt] at hb
      injection hb with hb
      rw [hb]
    have hw := wrapS i (by omega)
    unfold billetref04_IsName.l0
    rw [if_pos (by omega), if_pos (by omega), hbt, hd, List.all_cons, letter_eq, hw, ih]
    by_cases p1 : (b.toNat : Int) ≥ 97
    · rw [if_pos p1, if_pos (by omega), decide_eq_true (show 97 ≤ b.toNat by omega), decide_eq_true (show 48 ≤ b.toNat by omega)]
      by_cases p2 : (b.toNat : Int) ≤ 122
      · rw [if_pos p2, decide_eq_true (show b.toNat ≤ 122 by omega)]; rfl
      · rw [if_neg p2, if_neg (by omega), decide_eq_false (show ¬ b.toNat ≤ 122 by omega), decide_eq_false (show ¬ b.toNat ≤ 57 by omega)]; rfl
    · rw [if_neg p1, decide_eq_false (show ¬ 97 ≤ b.toNat by omega)]
      by_cases p3 : (b.toNat : Int) ≥ 48
      · rw [if_pos p3, decide_eq_true (show 48 ≤ b.toNat by omega)]
        by_cases p4 : (b.toNat : Int) ≤ 57
        · rw [if_pos p4, decide_eq_true (show b.toNat ≤ 57 by omega)]; rfl
        · rw [if_neg p4, decide_eq_false (show ¬ b.toNat ≤ 57 by omega)]; rfl
      · rw [if_neg p3, decide_eq_false (show ¬ 48 ≤ b.toNat by omega)]; rfl
theorem nj0 (k : Nat) (s : ByteArray) (b : Bool) : billetref04_IsName.j0 (k + 1) s b = (if b = true then some false else billetref04_IsName.l0 k s 0) := by rw [billetref04_IsName.j0]
theorem rj0 (k : Nat) (b : Bool) (a0 a1 a2 a3 a4 a5 : Int) (l : List S35) : billetref16_Right.j0 (k + 1) b a0 a1 a2 a3 a4 a5 l = (if b = true then some false else billetref16_Right.l0 k 0 a0 a1 a2 a3 a4 a5 l) := by rw [billetref16_Right.j0]
theorem isname_eq (k : Nat) (s : ByteArray) (hk : 16 ≤ k) : billetref04_IsName.f k s = some (nm s) := by
  obtain ⟨k, rfl⟩ : ∃ m, k = m + 1 := ⟨k - 1, by omega⟩
  unfold billetref04_IsName.f nm
  by_cases h1 : (s.size : Int) < 1
  · rw [if_pos h1, decide_eq_false (show ¬ 1 ≤ s.size by omega)]
    rw [nj0, if_pos rfl]; rfl
  · rw [if_neg h1, decide_eq_true (show 1 ≤ s.size by omega)]
    by_cases h2 : s.size ≤ 12
    · rw [decide_eq_false (show ¬ (s.size : Int) > 12 by omega), decide_eq_true h2]
      rw [nj0, if_neg (by decide)]
      have := isname_l s h2 s.size 0 k (by omega) (by omega)
      rw [show ((0 : Nat) : Int) = 0 from rfl] at this
      rw [this]; rfl
    · rw [decide_eq_true (show (s.size : Int) > 12 by omega), decide_eq_false h2]
      rw [nj0, if_pos rfl]; rfl
theorem ahd_ref (a b : S35) : ahd a b = (if Op.bytesLess b.f0.toList a.f0.toList = true then false else if a.f0.toList = b.f0.toList then Op.bytesLess a.f1.toList b.f1.toList else true) := by
  unfold ahd
  by_cases h1 : Op.bytesLess a.f0.toList b.f0.toList = true
  · rw [if_pos h1, if_neg (by rw [bl_asymm _ _ h1]; decide), if_neg (by intro e; rw [e, bl_irr] at h1; cases h1)]
  · rw [if_neg h1]
    by_cases h2 : Op.bytesLess b.f0.toList a.f0.toList = true
    · rw [if_pos h2, if_pos h2]
    · rw [if_neg h2, if_neg h2, if_pos (bl_tri _ _ ((Bool.not_eq_true _).mp h1) ((Bool.not_eq_true _).mp h2))]
theorem rright (l : List S35) (hl : l.length ≤ 64) (a0 a1 a2 a3 a4 a5 : Int) : ∀ (d i k : Nat), i + d = l.length → 2 * d + 20 ≤ k → billetref16_Right.l0 k (i : Int) a0 a1 a2 a3 a4 a5 l = some (goods l i d)
  | 0, i, k, h1, h3 => by
    obtain ⟨k, rfl⟩ : ∃ m, k = m + 1 := ⟨k - 1, by omega⟩
    unfold billetref16_Right.l0
    rw [if_neg (by omega)]; rfl
  | d + 1, i, k, h1, h3 => by
    obtain ⟨k, rfl⟩ : ∃ m, k = m + 2 := ⟨k - 2, by omega⟩
    have ih := rright l hl a0 a1 a2 a3 a4 a5 d (i + 1) k (by omega) (by omega)
    have hw := wrapS i (by omega)
    unfold billetref16_Right.l0
    rw [if_pos (by omega), if_pos (by omega), at_eq, isname_eq _ _ (by omega), isname_eq _ _ (by omega)]
    unfold goods good okB
    simp only [Option.bind_some]
    have jt : ∀ x y z, billetref16_Right.j2 (k + 1) (i : Int) true a0 a1 a2 a3 a4 a5 l x y z = some false := fun x y z => by unfold billetref16_Right.j2; rw [if_pos rfl]
    cases nm (at35 l i).f0 with
    | false => simp [jt]
    | true =>
      cases nm (at35 l i).f1 with
      | false => simp [jt]
      | true =>
        rw [if_pos rfl, if_pos rfl]
        by_cases c1 : (at35 l i).f2 < 1
        · rw [if_pos c1, jt, decide_eq_false (show ¬ 1 ≤ (at35 l i).f2 by omega)]; rfl
        · rw [if_neg c1, decide_eq_true (show 1 ≤ (at35 l i).f2 by omega)]
          by_cases c2 : (at35 l i).f2 > 1000
          · rw [decide_eq_true c2, jt, decide_eq_false (show ¬ (at35 l i).f2 ≤ 1000 by omega)]; rfl
          · rw [decide_eq_false c2, decide_eq_true (show (at35 l i).f2 ≤ 1000 by omega)]
            unfold billetref16_Right.j2
            rw [if_neg (by decide)]
            by_cases hi : i = 0
            · subst hi
              rw [if_neg (by decide), hw, ih]; rfl
            · have hp := wrapP i (by omega) (by omega)
              rw [if_pos (by omega), hp, if_pos (by omega), if_pos (by omega), at_eq, decide_eq_false hi, ahd_ref]
              by_cases q1 : Op.bytesLess (at35 l i).f0.toList (at35 l (i - 1)).f0.toList = true
              · rw [if_pos q1, if_pos q1]; rfl
              · rw [if_neg q1, if_neg q1]
                by_cases q2 : (at35 l (i - 1)).f0.toList = (at35 l i).f0.toList
                · rw [if_pos q2, if_pos q2]
                  by_cases q3 : Op.bytesLess (at35 l (i - 1)).f1.toList (at35 l i).f1.toList = true
                  · rw [if_pos q3, q3, hw, ih]; rfl
                  · rw [if_neg q3, (Bool.not_eq_true _).mp q3]; rfl
                · rw [if_neg q2, if_neg q2, hw, ih]; rfl
theorem ref_right_eq (l : List S35) (a0 a1 a2 a3 a4 a5 : Int) : billetref16_Right.f (2 * l.length + 22) a0 a1 a2 a3 a4 a5 l = some (rightS a0 a1 a2 a3 a4 a5 l) := by
  have jt : ∀ k, billetref16_Right.j0 (k + 1) true a0 a1 a2 a3 a4 a5 l = some false := fun k => by rw [rj0, if_pos rfl]
  have jf : billetref16_Right.j0 (2 * l.length + 22) (decide ((l.length : Int) > 64)) a0 a1 a2 a3 a4 a5 l = some (decide (l.length ≤ 64) && goods l 0 l.length) := by
    by_cases h : l.length ≤ 64
    · rw [decide_eq_false (show ¬ (l.length : Int) > 64 by omega), decide_eq_true h]
      rw [show 2 * l.length + 22 = (2 * l.length + 21) + 1 from rfl, rj0, if_neg (by decide)]
      have := rright l h a0 a1 a2 a3 a4 a5 l.length 0 (2 * l.length + 21) (by omega) (by omega)
      rw [show ((0 : Nat) : Int) = 0 from rfl] at this
      rw [this]; rfl
    · rw [decide_eq_true (show (l.length : Int) > 64 by omega), decide_eq_false h, jt]; rfl
  have hrt : (a0 = 1 ∨ a0 = 2) ∧ (0 ≤ a1 ∧ a1 ≤ 2) ∧ (0 ≤ a2 ∧ a2 ≤ 1099511627776) ∧ (0 ≤ a3 ∧ a3 ≤ 1099511627776) ∧ (0 ≤ a4 ∧ a4 ≤ 1099511627776) ∧ (-2199023255552 ≤ a5 ∧ a5 ≤ 2199023255552) → ranges a0 a1 a2 a3 a4 a5 = true := by
    rintro ⟨h0, h1, h2, h3, h4, h5⟩
    unfold ranges
    rw [decide_eq_true h0, decide_eq_true h1, decide_eq_true h2, decide_eq_true h3, decide_eq_true h4, decide_eq_true h5]; rfl
  have hrf : ranges a0 a1 a2 a3 a4 a5 = true → (a0 = 1 ∨ a0 = 2) ∧ (0 ≤ a1 ∧ a1 ≤ 2) ∧ (0 ≤ a2 ∧ a2 ≤ 1099511627776) ∧ (0 ≤ a3 ∧ a3 ≤ 1099511627776) ∧ (0 ≤ a4 ∧ a4 ≤ 1099511627776) ∧ (-2199023255552 ≤ a5 ∧ a5 ≤ 2199023255552) := by
    unfold ranges
    simp only [Bool.and_eq_true, decide_eq_true_eq]
    exact id
  unfold rightS
  cases hr : ranges a0 a1 a2 a3 a4 a5 with
  | true =>
    obtain ⟨h0, h1, h2, h3, h4, h5⟩ := hrf hr
    rw [Bool.true_and, ← jf]
    unfold billetref16_Right.f
    by_cases g0 : a0 = 1
    · rw [if_pos g0]
      rw [if_neg (by omega), if_neg (by omega), if_neg (by omega), if_neg (by omega), if_neg (by omega), if_neg (by omega), if_neg (by omega), if_neg (by omega), if_neg (by omega), if_neg (by omega)]
    · rw [if_neg g0, if_pos (h0.resolve_left g0)]
      rw [if_neg (by omega), if_neg (by omega), if_neg (by omega), if_neg (by omega), if_neg (by omega), if_neg (by omega), if_neg (by omega), if_neg (by omega), if_neg (by omega), if_neg (by omega)]
  | false =>
    have hn : ¬ ((a0 = 1 ∨ a0 = 2) ∧ (0 ≤ a1 ∧ a1 ≤ 2) ∧ (0 ≤ a2 ∧ a2 ≤ 1099511627776) ∧ (0 ≤ a3 ∧ a3 ≤ 1099511627776) ∧ (0 ≤ a4 ∧ a4 ≤ 1099511627776) ∧ (-2199023255552 ≤ a5 ∧ a5 ≤ 2199023255552)) := fun h => by rw [hrt h] at hr; cases hr
    rw [Bool.false_and]
    unfold billetref16_Right.f
    by_cases g0 : a0 = 1
    · rw [if_pos g0]
      by_cases g1 : a1 < 0
      · rw [if_pos g1]; exact jt (2 * l.length + 21)
      rw [if_neg g1]
      by_cases g2 : a1 ≥ 3
      · rw [if_pos g2]; exact jt (2 * l.length + 21)
      rw [if_neg g2]
      by_cases g3 : a2 < 0
      · rw [if_pos g3]; exact jt (2 * l.length + 21)
      rw [if_neg g3]
      by_cases g4 : a2 > 1099511627776
      · rw [if_pos g4]; exact jt (2 * l.length + 21)
      rw [if_neg g4]
      by_cases g5 : a3 < 0
      · rw [if_pos g5]; exact jt (2 * l.length + 21)
      rw [if_neg g5]
      by_cases g6 : a3 > 1099511627776
      · rw [if_pos g6]; exact jt (2 * l.length + 21)
      rw [if_neg g6]
      by_cases g7 : a4 < 0
      · rw [if_pos g7]; exact jt (2 * l.length + 21)
      rw [if_neg g7]
      by_cases g8 : a4 > 1099511627776
      · rw [if_pos g8]; exact jt (2 * l.length + 21)
      rw [if_neg g8]
      by_cases g9 : a5 < (-2199023255552)
      · rw [if_pos g9]; exact jt (2 * l.length + 21)
      rw [if_neg g9]
      by_cases g10 : a5 > 2199023255552
      · rw [if_pos g10]; exact jt (2 * l.length + 21)
      rw [if_neg g10]
      exfalso; omega
    · rw [if_neg g0]
      by_cases g00 : a0 = 2
      · rw [if_pos g00]
        by_cases g1 : a1 < 0
        · rw [if_pos g1]; exact jt (2 * l.length + 21)
        rw [if_neg g1]
        by_cases g2 : a1 ≥ 3
        · rw [if_pos g2]; exact jt (2 * l.length + 21)
        rw [if_neg g2]
        by_cases g3 : a2 < 0
        · rw [if_pos g3]; exact jt (2 * l.length + 21)
        rw [if_neg g3]
        by_cases g4 : a2 > 1099511627776
        · rw [if_pos g4]; exact jt (2 * l.length + 21)
        rw [if_neg g4]
        by_cases g5 : a3 < 0
        · rw [if_pos g5]; exact jt (2 * l.length + 21)
        rw [if_neg g5]
        by_cases g6 : a3 > 1099511627776
        · rw [if_pos g6]; exact jt (2 * l.length + 21)
        rw [if_neg g6]
        by_cases g7 : a4 < 0
        · rw [if_pos g7]; exact jt (2 * l.length + 21)
        rw [if_neg g7]
        by_cases g8 : a4 > 1099511627776
        · rw [if_pos g8]; exact jt (2 * l.length + 21)
        rw [if_neg g8]
        by_cases g9 : a5 < (-2199023255552)
        · rw [if_pos g9]; exact jt (2 * l.length + 21)
        rw [if_neg g9]
        by_cases g10 : a5 > 2199023255552
        · rw [if_pos g10]; exact jt (2 * l.length + 21)
        rw [if_neg g10]
        exfalso; omega
      · rw [if_neg g00]; exact jt (2 * l.length + 21)
end Go.Proofs.YtpgifeoigconbaaDoor.Rt
