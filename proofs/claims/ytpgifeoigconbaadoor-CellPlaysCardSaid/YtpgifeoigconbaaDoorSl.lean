/- Texts compared: 'greater' is 'less' turned. -/
import Derived.WalkKit
import Derived.Laws.Cover1
namespace Go.Proofs.YtpgifeoigconbaaDoor.Sl
open Go.RowKit
theorem bl_irr : ∀ x : List UInt8, Op.bytesLess x x = false
  | [] => rfl
  | a :: x => by simp [Op.bytesLess, bl_irr x]
theorem bl_asymm : ∀ x y : List UInt8, Op.bytesLess x y = true → Op.bytesLess y x = false
  | _, [] => by simp [Op.bytesLess]
  | [], _ :: _ => by simp [Op.bytesLess]
  | a :: x, b :: y => by
    have ih := bl_asymm x y
    simp only [Op.bytesLess, Bool.or_eq_true, Bool.and_eq_true, decide_eq_true_eq, beq_iff_eq, Bool.or_eq_false_iff, decide_eq_false_iff_not, Bool.and_eq_false_iff]
    rintro (h | ⟨rfl, h⟩)
    · exact ⟨fun h2 => by rw [UInt8.lt_iff_toNat_lt] at h h2; omega, .inl (by rw [beq_eq_false_iff_ne]; rintro rfl; rw [UInt8.lt_iff_toNat_lt] at h; omega)⟩
    · exact ⟨fun h2 => by rw [UInt8.lt_iff_toNat_lt] at h2; omega, .inr (ih h)⟩
theorem bl_tri : ∀ x y : List UInt8, Op.bytesLess x y = false → Op.bytesLess y x = false → x = y
  | [], [], _, _ => rfl
  | a :: x, [], _, h => by simp [Op.bytesLess] at h
  | [], b :: y, h, _ => by simp [Op.bytesLess] at h
  | a :: x, b :: y, h1, h2 => by
    simp only [Op.bytesLess, Bool.or_eq_false_iff, decide_eq_false_iff_not, Bool.and_eq_false_iff] at h1 h2
    have hab : a = b := by
      have p := h1.1; have q := h2.1
      rw [UInt8.lt_iff_toNat_lt] at p q
      exact UInt8.toNat_inj.1 (by omega)
    subst hab
    have e : (a == a) = true := by simp
    have p := h1.2.resolve_left (by rw [e]; simp)
    have q := h2.2.resolve_left (by rw [e]; simp)
    rw [bl_tri x y p q]
theorem bl_gtr (x y : List UInt8) : (!(Op.bytesLess x y || x == y)) = Op.bytesLess y x := by
  cases h : Op.bytesLess y x with
  | true =>
    have h1 := bl_asymm y x h
    have h2 : (x == y) = false := by rw [beq_eq_false_iff_ne]; rintro rfl; rw [bl_irr] at h; cases h
    rw [h1, h2]; rfl
  | false =>
    cases h2 : Op.bytesLess x y with
    | true => rfl
    | false => rw [bl_tri x y h2 h]; simp
theorem gtr_less (t : TypeId) (a b : ByteArray) : binOp .gtr t (.string a) (.string b) = pure (.bool (Op.bytesLess b.toList a.toList)) := by rw [binOp_string_gtr, bl_gtr]
theorem leq_less (t : TypeId) (a b : ByteArray) : binOp .leq t (.string a) (.string b) = pure (.bool (!(Op.bytesLess b.toList a.toList))) := by rw [binOp_string_leq, ← bl_gtr a.toList b.toList, Bool.not_not]
end Go.Proofs.YtpgifeoigconbaaDoor.Sl
