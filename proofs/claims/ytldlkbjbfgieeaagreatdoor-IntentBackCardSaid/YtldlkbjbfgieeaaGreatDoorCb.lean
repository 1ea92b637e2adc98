/- Texts compared. -/
/- thin -/
import Derived.Test.YtldlkbjbfgieeaaGreatDoorMo
import Derived.Lib.Bytealg
import Derived.RowKit
namespace Go.Proofs.YtldlkbjbfgieeaaGreatDoor.Cb
open Go.RowKit Sl
/-- one text stands ahead of another one -/
def lt (a b : ByteArray) : Bool := Op.bytesLess a.toList b.toList
theorem cmp_lt : ∀ a b : List UInt8, Lib.compareBytes a b < 0 ↔ Op.bytesLess a b = true
 | [], [] => by simp [Lib.compareBytes, Op.bytesLess]
 | [], _ :: _ => by simp [Lib.compareBytes, Op.bytesLess]
 | _ :: _, [] => by simp [Lib.compareBytes, Op.bytesLess]
 | a :: as, b :: bs => by
   have ih := cmp_lt as bs
   unfold Lib.compareBytes
   simp only [Op.bytesLess, Bool.or_eq_true, Bool.and_eq_true, decide_eq_true_eq, beq_iff_eq]
   by_cases h1 : a < b
   ·rw [if_pos h1]; simp [h1]
   ·rw [if_neg h1]
    by_cases h2 : b < a
    ·rw [if_pos h2]
     constructor
     ·intro h; omega
     ·rintro (h | ⟨rfl, _⟩)
      ·exact absurd h h1
      ·exact absurd h2 h1
    ·rw [if_neg h2]
     have hab : a = b := by
        rw [UInt8.lt_iff_toNat_lt] at h1 h2
        exact UInt8.toNat_inj.1 (by omega)
     subst hab
     rw [ih]; simp [h1]
theorem cmp_eq : ∀ a b : List UInt8, Lib.compareBytes a b = 0 ↔ a = b
 | [], [] => by simp [Lib.compareBytes]
 | [], _ :: _ => by simp [Lib.compareBytes]
 | _ :: _, [] => by simp [Lib.compareBytes]
 | a :: as, b :: bs => by
   have ih := cmp_eq as bs
   unfold Lib.compareBytes
   by_cases h1 : a < b
   ·rw [if_pos h1]
    constructor
    ·intro h; omega
    ·intro h; injection h with h _; subst h; rw [UInt8.lt_iff_toNat_lt] at h1; omega
   ·rw [if_neg h1]
    by_cases h2 : b < a
    ·rw [if_pos h2]
     constructor
     ·intro h; omega
     ·intro h; injection h with h _; subst h; rw [UInt8.lt_iff_toNat_lt] at h2; omega
    ·rw [if_neg h2]
     have hab : a = b := by
        rw [UInt8.lt_iff_toNat_lt] at h1 h2
        exact UInt8.toNat_inj.1 (by omega)
     subst hab
     rw [ih]; simp
def cm (a b : ByteArray) : Int := Lib.compareBytes a.data.toList b.data.toList
theorem cm_lt (a b : ByteArray) : cm a b < 0 ↔ lt a b = true := by unfold cm lt; rw [ByteArray.toList_eq, ByteArray.toList_eq]; exact cmp_lt _ _
theorem cm_eq (a b : ByteArray) : cm a b = 0 ↔ a = b := by
 unfold cm
 rw [cmp_eq]
 constructor
 ·intro h
  obtain ⟨x⟩ := a
  obtain ⟨y⟩ := b
  exact congrArg ByteArray.mk (Array.toList_inj.1 h)
 ·rintro rfl; rfl
theorem lt_irr (a : ByteArray) : lt a a = false := bl_irr _
theorem lt_asymm {a b : ByteArray} (h : lt a b = true) : lt b a = false := bl_asymm _ _ h
theorem lt_tri {a b : ByteArray} (h1 : lt a b = false) (h2 : lt b a = false) : a = b := by
 have := bl_tri _ _ h1 h2
 rw [ByteArray.toList_eq, ByteArray.toList_eq] at this
 obtain ⟨x⟩ := a
 obtain ⟨y⟩ := b
 exact congrArg ByteArray.mk (Array.toList_inj.1 this)
theorem bl_trans : ∀ a b c : List UInt8, Op.bytesLess a b = true → Op.bytesLess b c = true → Op.bytesLess a c = true
 | _, [], _, h, _ => by simp [Op.bytesLess] at h
 | _, _ :: _, [], _, h => by simp [Op.bytesLess] at h
 | [], _ :: _, _ :: _, _, _ => by simp [Op.bytesLess]
 | a :: as, b :: bs, c :: cs, h1, h2 => by
   have ih := bl_trans as bs cs
   simp only [Op.bytesLess, Bool.or_eq_true, Bool.and_eq_true, decide_eq_true_eq, beq_iff_eq] at h1 h2 ⊢
   rcases h1 with h1 | ⟨rfl, h1⟩
   ·rcases h2 with h2 | ⟨rfl, h2⟩
    ·left; rw [UInt8.lt_iff_toNat_lt] at *; omega
    ·exact .inl h1
   ·rcases h2 with h2 | ⟨rfl, h2⟩
    ·exact .inl h2
    ·exact .inr ⟨rfl, ih h1 h2⟩
theorem lt_trans {a b c : ByteArray} (h1 : lt a b = true) (h2 : lt b c = true) : lt a c = true := bl_trans _ _ _ h1 h2
theorem countP_boundary {α : Type} (p : α → Bool) (z : α) : ∀ (l : List α) (i : Nat), i ≤ l.length → (∀ t, t < i → p (l.getD t z) = true) → (∀ t, i ≤ t → t < l.length → p (l.getD t z) = false) → l.countP p = i
 | [], i, hi, _, _ => by simp at hi; simp [hi]
 | a :: r, 0, _, _, h2 => by
   rw [List.countP_eq_zero]
   intro x hx
   obtain ⟨t, ht, rfl⟩ := List.getElem_of_mem hx
   have := h2 t (Nat.zero_le _) ht
   rw [List.getD_eq_getElem?_getD, List.getElem?_eq_getElem ht] at this
   simpa using this
 | a :: r, i + 1, hi, h1, h2 => by
   have ha : p a = true := by simpa using h1 0 (Nat.succ_pos _)
   rw [List.countP_cons_of_pos ha, countP_boundary p z r i (by simpa using hi) (fun t ht => by simpa using h1 (t + 1) (by omega)) (fun t h3 h4 => by simpa using h2 (t + 1) (by omega) (by simpa using h4))]
end Go.Proofs.YtldlkbjbfgieeaaGreatDoor.Cb
namespace Go.Proofs.YtldlkbjbfgieeaaGreatDoor.St
set_option linter.unusedVariables false
set_option linter.unusedSimpArgs false
open Cb
section
variable {α : Type} (f : α → ByteArray)
def Sorted (l : List α) : Prop := l.Pairwise (fun a b => lt (f a) (f b) = true)
/-- how many are ahead of a name -/
def cnt (l : List α) (id : ByteArray) : Nat := l.countP fun x => lt (f x) id
/-- what a name has -/
def look (l : List α) (id : ByteArray) : Option α := l.find? fun x => decide (f x = id)
theorem split_at (id : ByteArray) : ∀ {l : List α}, Sorted f l → ∃ A B, l = A ++ B ∧ (∀ a ∈ A, lt (f a) id = true) ∧ (∀ b ∈ B, lt (f b) id = false) ∧ cnt f l id = A.length
 | [], _ => ⟨[], [], rfl, (fun a h => by cases h), (fun a h => by cases h), rfl⟩
 | x :: l, h => by
   cases hx : lt (f x) id with
   | true =>
    obtain ⟨A, B, rfl, h1, h2, h3⟩ := split_at id (List.Pairwise.of_cons h)
    refine ⟨x :: A, B, rfl, fun a ha => ?_, h2, ?_⟩
    ·rcases List.mem_cons.1 ha with rfl | ha
     ·exact hx
     ·exact h1 a ha
    ·unfold cnt at h3 ⊢
     rw [List.countP_cons_of_pos (p := fun x => lt (f x) id) hx, h3, List.length_cons]
   | false =>
    have hall : ∀ b ∈ x :: l, lt (f b) id = false := fun b hb => by
     rcases List.mem_cons.1 hb with rfl | hb
     ·exact hx
     ·cases hb2 : lt (f b) id with
      | false => rfl
      | true =>
       have := lt_trans (List.rel_of_pairwise_cons h hb) hb2
       rw [hx] at this
       cases this
    refine ⟨[], x :: l, rfl, (fun a h => by cases h), hall, ?_⟩
    unfold cnt
    rw [List.countP_eq_zero.2 (fun b hb => by rw [hall b hb]; exact Bool.false_ne_true)]
    rfl
theorem look_none {l : List α} {id : ByteArray} : look f l id = none ↔ ∀ x ∈ l, f x ≠ id := by
 unfold look
 rw [List.find?_eq_none]
 exact ⟨fun h x hx e => h x hx (decide_eq_true e), fun h x hx e => h x hx (of_decide_eq_true e)⟩
theorem look_of {l : List α} (hs : Sorted f l) {x : α} (hx : x ∈ l) : look f l (f x) = some x := by
 induction l with
 | nil => cases hx
 | cons y l ih =>
  unfold look
  rcases List.mem_cons.1 hx with rfl | hx
  ·rw [List.find?_cons_of_pos (by simp)]
  ·have hne : f y ≠ f x := fun e => by
    have := List.rel_of_pairwise_cons hs hx
    rw [e, lt_irr] at this
    cases this
   rw [List.find?_cons_of_neg (by simp [hne])]
   exact ih (List.Pairwise.of_cons hs) hx
theorem lt_ne {a b : ByteArray} (h : lt a b = true) : a ≠ b := fun e => by rw [e, lt_irr] at h; cases h
/-- a list in order, at a name -/
theorem at_name (id : ByteArray) {l : List α} (hs : Sorted f l) : ∃ A B, l = A ++ B ∧ cnt f l id = A.length ∧ (∀ a ∈ A, lt (f a) id = true) ∧ ((look f l id = none ∧ ∀ b ∈ B, lt id (f b) = true) ∨ ∃ x C, B = x :: C ∧ f x = id ∧ look f l id = some x ∧ ∀ b ∈ C, lt id (f b) = true) := by
 obtain ⟨A, B, rfl, h1, h2, h3⟩ := split_at f id hs
 refine ⟨A, B, rfl, h3, h1, ?_⟩
 have hB : B.Pairwise (fun a b => lt (f a) (f b) = true) := (List.pairwise_append.1 hs).2.1
 cases B with
 | nil => exact .inl ⟨(look_none f).2 (fun x hx => by rw [List.append_nil] at hx; exact lt_ne (h1 x hx)), fun b hb => by cases hb⟩
 | cons x C =>
  by_cases e : f x = id
  ·refine .inr ⟨x, C, rfl, e, ?_, fun b hb => by rw [← e]; exact List.rel_of_pairwise_cons hB hb⟩
   rw [← e]
   exact look_of f hs (List.mem_append_right _ List.mem_cons_self)
  ·have hx : lt id (f x) = true := by
    cases h : lt id (f x) with
    | true => rfl
    | false => exact absurd (lt_tri (h2 x List.mem_cons_self) h) e
   have hall : ∀ b ∈ x :: C, lt id (f b) = true := fun b hb => by
    rcases List.mem_cons.1 hb with rfl | hb
    ·exact hx
    ·exact lt_trans hx (List.rel_of_pairwise_cons hB hb)
   refine .inl ⟨(look_none f).2 (fun z hz => ?_), hall⟩
   rcases List.mem_append.1 hz with hz | hz
   ·exact lt_ne (h1 z hz)
   ·exact (lt_ne (hall z hz)).symm
theorem look_append (A B : List α) (id : ByteArray) : look f (A ++ B) id = (look f A id).or (look f B id) := by
 unfold look; exact List.find?_append
theorem look_cons (x : α) (l : List α) (id : ByteArray) : look f (x :: l) id = if f x = id then some x else look f l id := by
 unfold look
 by_cases h : f x = id
 ·rw [List.find?_cons_of_pos (by simp [h]), if_pos h]
 ·rw [List.find?_cons_of_neg (by simp [h]), if_neg h]
/-- one put between -/
theorem put_ok {A B : List α} {x : α} (hs : Sorted f (A ++ B)) (h1 : ∀ a ∈ A, lt (f a) (f x) = true) (h2 : ∀ b ∈ B, lt (f x) (f b) = true) : Sorted f (A ++ x :: B) ∧ ∀ id, look f (A ++ x :: B) id = if f x = id then some x else look f (A ++ B) id := by
 obtain ⟨a1, a2, a3⟩ := List.pairwise_append.1 hs
 refine ⟨List.pairwise_append.2 ⟨a1, List.pairwise_cons.2 ⟨h2, a2⟩, fun a ha b hb => ?_⟩, fun id => ?_⟩
 ·rcases List.mem_cons.1 hb with rfl | hb
  ·exact h1 a ha
  ·exact a3 a ha b hb
 ·rw [look_append, look_append, look_cons]
  by_cases e : f x = id
  ·rw [if_pos e, if_pos e, (look_none f).2 (fun a ha => by rw [← e]; exact lt_ne (h1 a ha))]; rfl
  ·rw [if_neg e, if_neg e]
/-- one taken away -/
theorem del_ok {A B : List α} {x : α} (hs : Sorted f (A ++ x :: B)) : Sorted f (A ++ B) ∧ ∀ id, look f (A ++ B) id = if f x = id then none else look f (A ++ x :: B) id := by
 obtain ⟨a1, a2, a3⟩ := List.pairwise_append.1 hs
 obtain ⟨b1, b2⟩ := List.pairwise_cons.1 a2
 refine ⟨List.pairwise_append.2 ⟨a1, b2, fun a ha b hb => a3 a ha b (List.mem_cons_of_mem _ hb)⟩, fun id => ?_⟩
 rw [look_append, look_append, look_cons]
 by_cases e : f x = id
 ·rw [if_pos e, (look_none f).2 (fun a ha => by rw [← e]; exact lt_ne (a3 a ha x List.mem_cons_self)), (look_none f).2 (fun b hb => by rw [← e]; exact (lt_ne (b1 b hb)).symm)]; rfl
 ·rw [if_neg e, if_neg e]
/-- one made another of its name -/
theorem set_ok {A B : List α} {x y : α} (hs : Sorted f (A ++ x :: B)) (e : f y = f x) : Sorted f (A ++ y :: B) ∧ ∀ id, look f (A ++ y :: B) id = if f x = id then some y else look f (A ++ x :: B) id := by
 obtain ⟨a1, a2, a3⟩ := List.pairwise_append.1 hs
 obtain ⟨b1, b2⟩ := List.pairwise_cons.1 a2
 refine ⟨List.pairwise_append.2 ⟨a1, List.pairwise_cons.2 ⟨fun b hb => by rw [e]; exact b1 b hb, b2⟩, fun a ha b hb => ?_⟩, fun id => ?_⟩
 ·rcases List.mem_cons.1 hb with rfl | hb
  ·rw [e]; exact a3 a ha x List.mem_cons_self
  ·exact a3 a ha b (List.mem_cons_of_mem _ hb)
 ·rw [look_append, look_append, look_cons, look_cons, e]
  by_cases h : f x = id
  ·rw [if_pos h, if_pos h, (look_none f).2 (fun a ha => by rw [← h]; exact lt_ne (a3 a ha x List.mem_cons_self))]; rfl
  ·rw [if_neg h, if_neg h, if_neg h]
def hasG (z : α) (l : List α) (id : ByteArray) : Bool := decide (cnt f l id < l.length) && decide (f (l.getD (cnt f l id) z) = id)
/-- whether a name is there, and where -/
theorem has_yes (z : α) {l : List α} {id : ByteArray} (hs : Sorted f l) (h : hasG f z l id = true) : ∃ A x C, l = A ++ x :: C ∧ f x = id ∧ look f l id = some x ∧ l.getD (cnt f l id) z = x ∧ (∀ y, l.set (cnt f l id) y = A ++ y :: C) ∧ l.take (cnt f l id) ++ l.drop (cnt f l id + 1) = A ++ C := by
 obtain ⟨A, B, rfl, h1, h2, h3⟩ := at_name f id hs
 unfold hasG at h
 simp only [Bool.and_eq_true, decide_eq_true_eq] at h
 obtain ⟨h4, h5⟩ := h
 rw [h1] at h4 h5 ⊢
 rcases h3 with ⟨hn, hb⟩ | ⟨x, C, rfl, e, hl, hc⟩
 ·cases B with
  | nil => simp at h4
  | cons b B =>
   have : (A ++ b :: B).getD A.length z = b := by simp [List.getD_eq_getElem?_getD]
   rw [this] at h5
   exact absurd h5 (lt_ne (hb b List.mem_cons_self)).symm
 ·refine ⟨A, x, C, rfl, e, hl, by simp [List.getD_eq_getElem?_getD], fun y => by simp, ?_⟩
  rw [List.take_left, List.drop_append, List.drop_of_length_le (by omega)]
  simp
theorem has_no (z : α) {l : List α} {id : ByteArray} (hs : Sorted f l) (h : hasG f z l id = false) : look f l id = none ∧ ∃ A B, l = A ++ B ∧ cnt f l id = A.length ∧ (∀ a ∈ A, lt (f a) id = true) ∧ (∀ b ∈ B, lt id (f b) = true) ∧ l.take (cnt f l id) = A ∧ l.drop (cnt f l id) = B := by
 obtain ⟨A, B, rfl, h1, h2, h3⟩ := at_name f id hs
 rcases h3 with ⟨hn, hb⟩ | ⟨x, C, rfl, e, hl, hc⟩
 ·exact ⟨hn, A, B, rfl, h1, h2, hb, by rw [h1, List.take_left], by rw [h1, List.drop_left]⟩
 ·unfold hasG at h
  rw [h1, decide_eq_true (by simp), show (A ++ x :: C).getD A.length z = x by simp [List.getD_eq_getElem?_getD], decide_eq_true e] at h
  cases h
end
end Go.Proofs.YtldlkbjbfgieeaaGreatDoor.St
