/- Lists in the order of nine names, held against plain tables of nine places. -/
import Derived.Test.YtldlkbjbfgieeaaGreatDoorCb
import Derived.Test.YtldlkbjbfgieeaaGreatDoorOf
namespace Go.Proofs.YtldlkbjbfgieeaaGreatDoor.Mp
set_option linter.unusedVariables false
set_option linter.unusedSimpArgs false
open Go.Proofs.YtldlkbjbfgieeaaGreatDoor.Cb Go.Proofs.YtldlkbjbfgieeaaGreatDoor.St Go.Proofs.YtldlkbjbfgieeaaGreatDoor.Of
theorem nine_lt_all : ((List.range 9).all fun i => (List.range 9).all fun j => !decide (i < j) || lt (nine i) (nine j)) = true := by decide +kernel
theorem nine_lt {i j : Nat} (hj : j < 9) (h : i < j) : lt (nine i) (nine j) = true := by
  have := List.all_eq_true.1 (List.all_eq_true.1 nine_lt_all i (List.mem_range.2 (by omega))) j (List.mem_range.2 hj)
  simpa [h] using this
theorem nine_inj {i j : Nat} (hi : i < 9) (hj : j < 9) (h : nine i = nine j) : i = j := by
  rcases Nat.lt_trichotomy i j with q | q | q
  · exact absurd h (lt_ne (nine_lt hj q))
  · exact q
  · exact absurd h.symm (lt_ne (nine_lt hi q))
theorem nine_ne {k : Nat} (h : k < 9) : nine k ≠ ByteArray.empty := fun e => lt_ne (nine_of h).2 e.symm
section
variable {α : Type} (f : α → ByteArray) (z : α)
/-- the list l and the table m say the same -/
def J (l m : List α) : Prop := m.length = 9 ∧ (∀ x ∈ l, ∃ k, k < 9 ∧ f x = nine k) ∧ ∀ k, k < 9 → St.look f l (nine k) = if f (m.getD k z) = ByteArray.empty then none else some (m.getD k z)
theorem J.nil (hz : f z = ByteArray.empty) : J f z [] (List.replicate 9 z) := ⟨List.length_replicate, (fun x h => by cases h), fun k hk => by
  rw [List.getD_eq_getElem?_getD, List.getElem?_replicate, if_pos hk, Option.getD_some, if_pos hz]; rfl⟩
variable {f z}
theorem J.name {l m : List α} (h : J f z l m) {k : Nat} (hk : k < 9) (hn : f (m.getD k z) ≠ ByteArray.empty) : f (m.getD k z) = nine k := by
  have := h.2.2 k hk
  rw [if_neg hn] at this
  exact (look_mem f this).2
theorem J.has {l m : List α} (hs : Sorted f l) (h : J f z l m) {k : Nat} (hk : k < 9) : hasG f z l (nine k) = !decide (f (m.getD k z) = ByteArray.empty) := by
  have h3 := h.2.2 k hk
  by_cases e : f (m.getD k z) = ByteArray.empty
  · rw [if_pos e] at h3
    rw [decide_eq_true e]
    cases hh : hasG f z l (nine k) with
    | false => rfl
    | true =>
      obtain ⟨A, x, C, _, _, h4, _⟩ := has_yes f z hs hh
      rw [h3] at h4
      cases h4
  · rw [if_neg e] at h3
    rw [decide_eq_false e]
    cases hh : hasG f z l (nine k) with
    | true => rfl
    | false =>
      have h4 := (has_no f z hs hh).1
      rw [h3] at h4
      cases h4
theorem getD_set {m : List α} {k j : Nat} (x : α) (hk : k < m.length) : (m.set k x).getD j z = if k = j then x else m.getD j z := by
  rw [List.getD_eq_getElem?_getD, List.getElem?_set, List.getD_eq_getElem?_getD]
  by_cases e : k = j
  · subst e
    rw [if_pos rfl, if_pos hk, if_pos rfl]; rfl
  · rw [if_neg e, if_neg e]
/-- what changes one name's entry changes one place -/
theorem J.step {l l' m : List α} (h : J f z l m) {k : Nat} (hk : k < 9) (o : Option α) (x : α) (hx : o = if f x = ByteArray.empty then none else some x) (hm : ∀ y ∈ l', ∃ j, j < 9 ∧ f y = nine j)
    (hl : ∀ id, St.look f l' id = if nine k = id then o else St.look f l id) : J f z l' (m.set k x) := by
  refine ⟨by rw [List.length_set]; exact h.1, hm, fun j hj => ?_⟩
  rw [hl, getD_set x (by rw [h.1]; exact hk)]
  by_cases e : k = j
  · subst e
    rw [if_pos rfl, if_pos rfl, hx]
  · rw [if_neg e, if_neg (fun q => e (nine_inj hk hj q))]
    exact h.2.2 j hj
theorem J.put {l m : List α} (hs : Sorted f l) (h : J f z l m) {k : Nat} (hk : k < 9) {x : α} (hx : f x = nine k) (hn : f (m.getD k z) = ByteArray.empty) :
    J f z (l.take (cnt f l (nine k)) ++ x :: l.drop (cnt f l (nine k))) (m.set k x) := by
  have hh : hasG f z l (nine k) = false := by rw [h.has hs hk, decide_eq_true hn]; rfl
  obtain ⟨h1, A, B, h2, h3, h4, h5, h6, h7⟩ := has_no f z hs hh
  rw [h6, h7]
  have hp := put_ok f (A := A) (B := B) (x := x) (h2 ▸ hs) (by rw [hx]; exact h4) (by rw [hx]; exact h5)
  refine h.step hk (some x) x (by rw [if_neg (by rw [hx]; exact nine_ne hk)]) (fun y hy => ?_) (fun id => by rw [hp.2 id, hx, h2])
  rcases List.mem_append.1 hy with hy | hy
  · exact h.2.1 y (by rw [h2]; exact List.mem_append_left _ hy)
  · rcases List.mem_cons.1 hy with rfl | hy
    · exact ⟨k, hk, hx⟩
    · exact h.2.1 y (by rw [h2]; exact List.mem_append_right _ hy)
theorem J.del {l m : List α} (hs : Sorted f l) (h : J f z l m) {k : Nat} (hk : k < 9) {x : α} (hx : f x = ByteArray.empty) (hn : f (m.getD k z) ≠ ByteArray.empty) :
    J f z (l.take (cnt f l (nine k)) ++ l.drop (cnt f l (nine k) + 1)) (m.set k x) := by
  have hh : hasG f z l (nine k) = true := by rw [h.has hs hk, decide_eq_false hn]; rfl
  obtain ⟨A, y, C, h2, h3, h4, _, _, h5⟩ := has_yes f z hs hh
  rw [h5]
  have hp := del_ok f (A := A) (B := C) (x := y) (h2 ▸ hs)
  refine h.step hk none x (by rw [if_pos hx]) (fun y hy => ?_) (fun id => by rw [hp.2 id, h3, ← h2])
  rcases List.mem_append.1 hy with hy | hy
  · exact h.2.1 y (by rw [h2]; exact List.mem_append_left _ hy)
  · exact h.2.1 y (by rw [h2]; exact List.mem_append_right _ (List.mem_cons_of_mem _ hy))
theorem J.set {l m : List α} (hs : Sorted f l) (h : J f z l m) {k : Nat} (hk : k < 9) {x : α} (hx : f x = nine k) (hn : f (m.getD k z) ≠ ByteArray.empty) :
    J f z (l.set (cnt f l (nine k)) x) (m.set k x) := by
  have hh : hasG f z l (nine k) = true := by rw [h.has hs hk, decide_eq_false hn]; rfl
  obtain ⟨A, y, C, h2, h3, h4, _, h5, _⟩ := has_yes f z hs hh
  rw [h5]
  have hp := set_ok f (A := A) (B := C) (x := y) (y := x) (h2 ▸ hs) (by rw [hx, h3])
  refine h.step hk (some x) x (by rw [if_neg (by rw [hx]; exact nine_ne hk)]) (fun u hu => ?_) (fun id => by rw [hp.2 id, h3, ← h2])
  rcases List.mem_append.1 hu with hu | hu
  · exact h.2.1 u (by rw [h2]; exact List.mem_append_left _ hu)
  · rcases List.mem_cons.1 hu with rfl | hu
    · exact ⟨k, hk, hx⟩
    · exact h.2.1 u (by rw [h2]; exact List.mem_append_right _ (List.mem_cons_of_mem _ hu))
/-- the entry of the list at a name that the table has -/
theorem J.getD {l m : List α} (hs : Sorted f l) (h : J f z l m) {k : Nat} (hk : k < 9) (hn : f (m.getD k z) ≠ ByteArray.empty) : l.getD (cnt f l (nine k)) z = m.getD k z := by
  have hh : hasG f z l (nine k) = true := by rw [h.has hs hk, decide_eq_false hn]; rfl
  obtain ⟨A, y, C, h2, h3, h4, h5, _, _⟩ := has_yes f z hs hh
  rw [h5]
  have := h.2.2 k hk
  rw [if_neg hn, h4] at this
  exact Option.some.inj this
def full (m : List α) : List α := m.filter fun x => !decide (f x = ByteArray.empty)
theorem J.sorted {l m : List α} (h : J f z l m) : Sorted f (full (f := f) m) := by
  have key : ∀ (m' : List α) (i : Nat), (∀ j, j < m'.length → m'.getD j z = m.getD (i + j) z) → i + m'.length = 9 → Sorted f (full (f := f) m') ∧ ∀ x ∈ full (f := f) m', ∃ j, i ≤ j ∧ j < 9 ∧ f x = nine j := by
    intro m'
    induction m' with
    | nil => exact fun i _ _ => ⟨List.Pairwise.nil, fun x hx => by cases hx⟩
    | cons x m' ih =>
      intro i hi hl
      rw [List.length_cons] at hl
      obtain ⟨h1, h2⟩ := ih (i + 1) (fun j hj => by
        have := hi (j + 1) (by rw [List.length_cons]; omega)
        rw [show i + 1 + j = i + (j + 1) by omega, ← this]
        rfl) (by omega)
      have hx0 : x = m.getD i z := by
        have := hi 0 (by rw [List.length_cons]; omega)
        exact this
      unfold full at h1 h2 ⊢
      by_cases e : f x = ByteArray.empty
      · rw [List.filter_cons_of_neg (by simp [e])]
        exact ⟨h1, fun y hy => by obtain ⟨j, q1, q2, q3⟩ := h2 y hy; exact ⟨j, by omega, q2, q3⟩⟩
      · rw [List.filter_cons_of_pos (by simp [e])]
        have hx : f x = nine i := by rw [hx0] at e ⊢; exact h.name (by omega) e
        refine ⟨List.Pairwise.cons (fun y hy => ?_) h1, fun y hy => ?_⟩
        · obtain ⟨j, q1, q2, q3⟩ := h2 y hy
          show lt (f x) (f y) = true
          rw [hx, q3]
          exact nine_lt q2 (by omega)
        · rcases List.mem_cons.1 hy with rfl | hy
          · exact ⟨i, Nat.le_refl _, by omega, hx⟩
          · obtain ⟨j, q1, q2, q3⟩ := h2 y hy
            exact ⟨j, by omega, q2, q3⟩
  exact (key m 0 (fun j _ => by rw [Nat.zero_add]) (by rw [h.1])).1
theorem J.eq {l m : List α} (hs : Sorted f l) (h : J f z l m) : l = full (f := f) m := by
  refine ext_look f hs h.sorted fun id => ?_
  cases hl : St.look f l id with
  | some x =>
    obtain ⟨hx, hn⟩ := look_mem f hl
    obtain ⟨k, hk, hk2⟩ := h.2.1 x hx
    have h3 := h.2.2 k hk
    rw [← hk2, hn, hl] at h3
    by_cases e : f (m.getD k z) = ByteArray.empty
    · rw [if_pos e] at h3; cases h3
    · rw [if_neg e] at h3
      have hx' := Option.some.inj h3
      have hmem : x ∈ full (f := f) m := by
        refine List.mem_filter.2 ⟨?_, ?_⟩
        · rw [hx', List.getD_eq_getElem?_getD, List.getElem?_eq_getElem (by rw [h.1]; exact hk)]
          exact List.getElem_mem _
        · rw [hx', decide_eq_false e]; rfl
      rw [← hn]
      exact (look_of f h.sorted hmem).symm
  | none =>
    refine ((look_none f).2 fun x hx e => ?_).symm
    obtain ⟨hx1, hx2⟩ := List.mem_filter.1 hx
    obtain ⟨k, hk, hk2⟩ := List.mem_iff_getElem.1 hx1
    rw [h.1] at hk
    have hg : m.getD k z = x := by rw [List.getD_eq_getElem?_getD, List.getElem?_eq_getElem (by rw [h.1]; exact hk)]; exact hk2
    have hne : f (m.getD k z) ≠ ByteArray.empty := by rw [hg]; simpa using hx2
    have h3 := h.2.2 k hk
    rw [if_neg hne, ← h.name hk hne, hg, e, hl] at h3
    cases h3
/-- how many of the first k places are full -/
def upto (m : List α) (k : Nat) : Nat := (full (f := f) (m.take k)).length
theorem upto_yes {m : List α} {k : Nat} (hk : k < m.length) (hn : f (m.getD k z) ≠ ByteArray.empty) : upto (f := f) m (k + 1) = upto (f := f) m k + 1 ∧ (full (f := f) m)[upto (f := f) m k]? = some (m.getD k z) ∧ upto (f := f) m k < (full (f := f) m).length := by
  have hg : m.getD k z = m[k] := by rw [List.getD_eq_getElem?_getD, List.getElem?_eq_getElem hk]; rfl
  rw [hg] at hn ⊢
  have e1 : m.take (k + 1) = m.take k ++ [m[k]] := by rw [List.take_add_one, List.getElem?_eq_getElem hk]; rfl
  have e2 : m = m.take k ++ (m[k] :: m.drop (k + 1)) := by rw [← List.drop_eq_getElem_cons hk, List.take_append_drop]
  have e3 : full (f := f) m = full (f := f) (m.take k) ++ (m[k] :: full (f := f) (m.drop (k + 1))) := by
    conv => lhs; rw [e2]
    unfold full
    rw [List.filter_append, List.filter_cons_of_pos (by simp [hn])]
  unfold upto
  refine ⟨?_, ?_, ?_⟩
  · rw [e1]
    unfold full
    rw [List.filter_append, List.filter_cons_of_pos (by simp [hn]), List.length_append]
    rfl
  · rw [e3, List.getElem?_append_right (Nat.le_refl _), Nat.sub_self]; rfl
  · rw [e3, List.length_append, List.length_cons]; omega
theorem upto_no {m : List α} {k : Nat} (hk : k < m.length) (hn : f (m.getD k z) = ByteArray.empty) : upto (f := f) m (k + 1) = upto (f := f) m k := by
  have hg : m.getD k z = m[k] := by rw [List.getD_eq_getElem?_getD, List.getElem?_eq_getElem hk]; rfl
  rw [hg] at hn
  unfold upto
  have e1 : m.take (k + 1) = m.take k ++ [m[k]] := by rw [List.take_add_one, List.getElem?_eq_getElem hk]; rfl
  rw [e1]
  unfold full
  rw [List.filter_append, List.filter_cons_of_neg (by simp [hn]), List.filter_nil, List.append_nil]
end
end Go.Proofs.YtldlkbjbfgieeaaGreatDoor.Mp
