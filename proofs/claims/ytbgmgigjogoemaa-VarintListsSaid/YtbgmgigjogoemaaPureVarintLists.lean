/- Unlike lists of numbers are laid unlike: for every two lists, without conditions. -/
import Derived.Test.YtbgmgigjogoemaaVaw
import Derived.Test.YtbgmgigjogoemaaQx15
namespace Go.Proofs.Ytbgmgigjogoemaa.Pure
open Go.RowKit Go.Proofs.YtbgmgigjogoemaaW.PrintWords Go.Proofs.YtbgmgigjogoemaaW.PrintLast Go.Proofs.YtbgmgigjogoemaaW.PrintMore Go.Proofs.Ytbgmgigjogoemaa.Num Go.Proofs.Ytbgmgigjogoemaa.Vth Go.Proofs.Ytbgmgigjogoemaa.Giv Go.Proofs.Ytbgmgigjogoemaa.Q Go.Proofs.Ytbgmgigjogoemaa.Vrd Go.Proofs.Ytbgmgigjogoemaa.Vaw
def InR (l : List Int) : Prop := ∀ x ∈ l, -9223372036854775808 ≤ x ∧ x ≤ 9223372036854775807
def cat : List Int → ByteArray
  | [] => ByteArray.empty
  | x :: l => num x ++ cat l
theorem cat_size (l : List Int) : l.length ≤ (cat l).size ∧ (cat l).size ≤ 10 * l.length := by
  induction l with
  | nil => exact ⟨Nat.le_refl _, Nat.le_refl _⟩
  | cons x l ih =>
    have := num_size_bd x
    simp only [cat, ByteArray.size_append, List.length_cons]
    omega
theorem cat_told : ∀ (a b : List Int) (r t : List Int), InR a → InR b → bytesOf (cat a) ++ r = bytesOf (cat b) ++ t → ∀ i : Nat, i < a.length → i < b.length → a[i]? = b[i]?
  | [], _, _, _, _, _, _, i, hi, _ => by simp at hi
  | _ :: _, [], _, _, _, _, _, i, _, hi => by simp at hi
  | x :: a, y :: b, r, t, ha, hb, h, i, hi, hj => by
    simp only [cat, bytes_append, List.append_assoc] at h
    have hx := ha x List.mem_cons_self
    have hy := hb y List.mem_cons_self
    have e := num_told h hx.1 hx.2 hy.1 hy.2
    subst e
    have h' := List.append_cancel_left h
    cases i with
    | zero => rfl
    | succ i =>
      have := cat_told a b r t (fun z hz => ha z (List.mem_cons_of_mem _ hz)) (fun z hz => hb z (List.mem_cons_of_mem _ hz)) h' i (by simpa using hi) (by simpa using hj)
      simpa using this
theorem cat_append (a b : List Int) : cat (a ++ b) = cat a ++ cat b := by
  induction a with
  | nil => simp [cat]
  | cons x l ih => simp only [List.cons_append, cat, ih, ByteArray.append_assoc]
theorem drop_rd (l : List Int) (i : Nat) (h : i < l.length) : l.drop i = rd l i :: l.drop (i + 1) := by
  rw [List.drop_eq_getElem_cons h]
  congr 1
  simp [rd, List.getD_eq_getElem?_getD, List.getElem?_eq_getElem h]
theorem rd_in {l : List Int} (hl : InR l) (i : Nat) (h : i < l.length) : -9223372036854775808 ≤ rd l i ∧ rd l i ≤ 9223372036854775807 := by
  have : rd l i = l[i] := by simp [rd, List.getD_eq_getElem?_getD, List.getElem?_eq_getElem h]
  rw [this]; exact hl _ (List.getElem_mem h)
theorem lists_l0 (a b : List Int) (ha : InR a) (h30 : a.length ≤ 30) (ok same : Bool) (t : ByteArray) (d : Nat) : ∀ (k i : Nat) (s : ByteArray), i + d = a.length → s.size + 10 * d ≤ 1000 →
    billetlaw01_VarintLists.l0 (k + d + 1) a b ok s t same i = billetlaw01_VarintLists.l1 k a b ok (s ++ cat (a.drop i)) t same 0 := by
  induction d with
  | zero =>
    intro k i s hd hs
    simp only [billetlaw01_VarintLists.l0]
    rw [if_neg (by omega), List.drop_of_length_le (by omega)]
    simp [cat]
  | succ d ih =>
    intro k i s hd hs
    have hr := rd_in ha i (by omega)
    have hz := num_size_bd (rd a i)
    obtain ⟨m, hm⟩ : ∃ m, k + d + 1 = m := ⟨_, rfl⟩
    rw [show k + (d + 1) + 1 = m + 1 by omega]
    simp only [billetlaw01_VarintLists.l0]
    rw [← hm]
    rw [if_pos (by omega), if_pos (by omega), Numf _ hr.1 hr.2, Option.bind_some, if_pos (by omega), wrap_in ((i : Int) + 1) (by omega) (by omega), show (i : Int) + 1 = ((i + 1 : Nat) : Int) by omega,
      ih k (i + 1) _ (by omega) (by rw [ByteArray.size_append]; omega), drop_rd a i (by omega), cat, ByteArray.append_assoc]
theorem lists_l1 (a b : List Int) (hb : InR b) (h30 : b.length ≤ 30) (ok same : Bool) (s : ByteArray) (d : Nat) : ∀ (k i : Nat) (t : ByteArray), i + d = b.length → t.size + 10 * d ≤ 1000 →
    billetlaw01_VarintLists.l1 (k + d + 1) a b ok s t same i = billetlaw01_VarintLists.l2 k a b ok s (t ++ cat (b.drop i)) same 0 := by
  induction d with
  | zero =>
    intro k i t hd hs
    simp only [billetlaw01_VarintLists.l1]
    rw [if_neg (by omega), List.drop_of_length_le (by omega)]
    simp [cat]
  | succ d ih =>
    intro k i t hd hs
    have hr := rd_in hb i (by omega)
    have hz := num_size_bd (rd b i)
    obtain ⟨m, hm⟩ : ∃ m, k + d + 1 = m := ⟨_, rfl⟩
    rw [show k + (d + 1) + 1 = m + 1 by omega]
    simp only [billetlaw01_VarintLists.l1]
    rw [← hm]
    rw [if_pos (by omega), if_pos (by omega), Numf _ hr.1 hr.2, Option.bind_some, if_pos (by omega), wrap_in ((i : Int) + 1) (by omega) (by omega), show (i : Int) + 1 = ((i + 1 : Nat) : Int) by omega,
      ih k (i + 1) _ (by omega) (by rw [ByteArray.size_append]; omega), drop_rd b i (by omega), cat, ByteArray.append_assoc]
/-- how it ends -/
theorem mn_nat (a b : Nat) : mn (a : Int) (b : Int) = ((min a b : Nat) : Int) := by unfold mn; split <;> omega
theorem lists_l2 (a b : List Int) (h30 : a.length ≤ 30) (h31 : b.length ≤ 30) (s t : ByteArray) (hsa : a.length ≤ s.size)
    (hfin : (∀ j : Nat, j < min a.length b.length → rd a j = rd b j) ↔ (s.extract 0 (min s.size t.size)).toList = (t.extract 0 (min s.size t.size)).toList) (d : Nat) :
    ∀ (k i : Nat) (same : Bool), i + d = min a.length b.length → d < k → (same = true ↔ ∀ j : Nat, j < i → rd a j = rd b j) → billetlaw01_VarintLists.l2 k a b true s t same i = some true := by
  have exit : ∀ same : Bool, (same = true ↔ ∀ j : Nat, j < min a.length b.length → rd a j = rd b j) →
      (if true = true then (if 0 ≤ (mn (s.size : Int) (t.size : Int)) then (if (mn (s.size : Int) (t.size : Int)) ≤ (s.size : Int) then (if (mn (s.size : Int) (t.size : Int)) ≤ (t.size : Int) then (if (((s.extract 0 ((mn (s.size : Int) (t.size : Int)) : Int).toNat).toList == (t.extract 0 ((mn (s.size : Int) (t.size : Int)) : Int).toNat).toList) == same) = true then (some (decide ((s.size : Int) ≥ (a.length : Int)))) else (some false)) else (none)) else (none)) else (none)) else (some false)) = some true := by
    intro same hs
    rw [if_pos rfl, mn_nat, if_pos (by omega), if_pos (by omega), if_pos (by omega), Int.toNat_natCast, if_pos]
    · simp; omega
    · rw [beq_iff_eq, Bool.eq_iff_iff, beq_iff_eq, ← hfin, hs]
  induction d with
  | zero =>
    intro k i same hd hk hs
    obtain ⟨k, rfl⟩ : ∃ m, k = m + 1 := ⟨k - 1, by omega⟩
    have hs' : same = true ↔ ∀ j : Nat, j < min a.length b.length → rd a j = rd b j := by rw [← hd]; exact hs
    simp only [billetlaw01_VarintLists.l2]
    by_cases h : (i : Int) < a.length
    · rw [if_pos h, if_neg (by omega)]; exact exit same hs'
    · rw [if_neg h]; exact exit same hs'
  | succ d ih =>
    intro k i same hd hk hs
    obtain ⟨k, rfl⟩ : ∃ m, k = m + 1 := ⟨k - 1, by omega⟩
    simp only [billetlaw01_VarintLists.l2]
    rw [if_pos (by omega), if_pos (by omega), wrap_in ((i : Int) + 1) (by omega) (by omega), show (i : Int) + 1 = ((i + 1 : Nat) : Int) by omega]
    cases same with
    | true =>
      rw [if_pos rfl, if_pos (by omega)]
      refine ih k (i + 1) _ (by omega) (by omega) ?_
      rw [beq_iff_eq]
      constructor
      · intro h j hj
        rcases Nat.lt_or_ge j i with h1 | h1
        · exact (hs.1 rfl) j h1
        · obtain rfl : j = i := by omega
          exact h
      · intro h; exact h i (by omega)
    | false =>
      rw [if_neg (by simp)]
      refine ih k (i + 1) _ (by omega) (by omega) ?_
      constructor
      · intro h; cases h
      · intro h; exact hs.2 (fun j hj => h j (by omega))
theorem take_bytes (s : ByteArray) (n : Nat) : bytesOf (s.extract 0 n) = (bytesOf s).take n := by
  unfold bytesOf
  rw [ByteArray.data_extract, Array.toList_extract, List.extract_eq_take_drop, List.map_take, List.map_drop]
  simp
theorem lists_fin (a b : List Int) (ha : InR a) (hb : InR b) :
    (∀ j : Nat, j < min a.length b.length → rd a j = rd b j) ↔ ((cat a).extract 0 (min (cat a).size (cat b).size)).toList = ((cat b).extract 0 (min (cat a).size (cat b).size)).toList := by
  rw [toList_iff]
  have hrd : ∀ (l : List Int) (j : Nat), j < l.length → l[j]? = some (rd l j) := fun l j hj => by
    rw [List.getElem?_eq_getElem hj]; congr 1; simp [rd, List.getD_eq_getElem?_getD, List.getElem?_eq_getElem hj]
  constructor
  · intro h
    have key : ∀ (p q : List Int), p.length ≤ q.length → (∀ j : Nat, j < p.length → rd p j = rd q j) → q = p ++ q.drop p.length := by
      intro p q hl hpq
      have : p = q.take p.length := by
        apply List.ext_getElem?
        intro i
        rcases Nat.lt_or_ge i p.length with h1 | h1
        · rw [List.getElem?_take_of_lt h1, hrd p i h1, hrd q i (by omega), hpq i h1]
        · rw [List.getElem?_eq_none h1, List.getElem?_eq_none (by rw [List.length_take]; omega)]
      conv => lhs; rw [← List.take_append_drop p.length q, ← this]
    apply bytes_inj
    rw [take_bytes, take_bytes]
    rcases Nat.le_total a.length b.length with hl | hl
    · have e := key a b hl (fun j hj => h j (by omega))
      rw [e, cat_append, bytes_append, ByteArray.size_append, List.take_append_of_le_length (by rw [bytesOf_length]; omega)]
    · have e := key b a hl (fun j hj => (h j (by omega)).symm)
      rw [e, cat_append, bytes_append, ByteArray.size_append, List.take_append_of_le_length (by rw [bytesOf_length]; omega)]
  · intro h j hj
    have h' : (bytesOf (cat a)).take (min (cat a).size (cat b).size) = (bytesOf (cat b)).take (min (cat a).size (cat b).size) := by rw [← take_bytes, ← take_bytes, h]
    have hc : ∃ r t, bytesOf (cat a) ++ r = bytesOf (cat b) ++ t := by
      rcases Nat.le_total (cat a).size (cat b).size with hl | hl
      · refine ⟨(bytesOf (cat b)).drop (cat a).size, [], ?_⟩
        rw [Nat.min_eq_left hl, List.take_of_length_le (by rw [bytesOf_length]; omega)] at h'
        rw [h', List.append_nil, List.take_append_drop]
      · refine ⟨[], (bytesOf (cat a)).drop (cat b).size, ?_⟩
        rw [Nat.min_eq_right hl, List.take_of_length_le (l := bytesOf (cat b)) (by rw [bytesOf_length]; omega)] at h'
        rw [← h', List.append_nil, List.take_append_drop]
    obtain ⟨r, t, e⟩ := hc
    have := cat_told a b r t ha hb e j (by omega) (by omega)
    rw [hrd a j (by omega), hrd b j (by omega)] at this
    exact Option.some.inj this
theorem VarintLists : billetlaw01_VarintLists.Pure := by
  intro a b _ _ ha _ _ hb
  have ha' : InR a := fun x hx => int64_bd (ha x hx)
  have hb' : InR b := fun x hx => int64_bd (hb x hx)
  refine ⟨200, ?_⟩
  unfold billetlaw01_VarintLists.f
  rw [awake_yes 200 (by omega), Option.bind_some]
  rw [show (30 : Int) = ((30 : Nat) : Int) from rfl, mn_nat, mn_nat, if_pos (by omega), if_pos (by omega), if_pos (by omega), if_pos (by omega), Int.toNat_natCast, Int.toNat_natCast]
  have la : (a.take (min a.length 30)).length ≤ 30 := by rw [List.length_take]; omega
  have lb : (b.take (min b.length 30)).length ≤ 30 := by rw [List.length_take]; omega
  have ra : InR (a.take (min a.length 30)) := fun x hx => ha' x (List.mem_of_mem_take hx)
  have rb : InR (b.take (min b.length 30)) := fun x hx => hb' x (List.mem_of_mem_take hx)
  generalize a.take (min a.length 30) = A at la ra ⊢
  generalize b.take (min b.length 30) = B at lb rb ⊢
  have z0 : (⟨#[]⟩ : ByteArray).size = 0 := rfl
  have e0 := lists_l0 A B ra la true true ⟨#[]⟩ A.length (199 - A.length) 0 ⟨#[]⟩ (by omega) (by omega)
  rw [show 199 - A.length + A.length + 1 = 200 by omega] at e0
  refine Eq.trans e0 ?_
  have e1 := lists_l1 A B rb lb true true (⟨#[]⟩ ++ cat (A.drop 0)) B.length (198 - A.length - B.length) 0 ⟨#[]⟩ (by omega) (by omega)
  rw [show 198 - A.length - B.length + B.length + 1 = 199 - A.length by omega] at e1
  refine Eq.trans e1 ?_
  have em : ∀ x : ByteArray, (⟨#[]⟩ : ByteArray) ++ x = x := fun x => ByteArray.empty_append
  rw [em, em, List.drop_zero, List.drop_zero]
  have hc := cat_size A
  exact lists_l2 A B la lb (cat A) (cat B) hc.1 (lists_fin A B ra rb) (min A.length B.length) _ 0 true (by omega) (by omega) (by simp)
end Go.Proofs.Ytbgmgigjogoemaa.Pure
