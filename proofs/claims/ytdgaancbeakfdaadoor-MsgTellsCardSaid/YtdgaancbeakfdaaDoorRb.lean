/- What msg.Get takes up, msg.Put lays (plain law). -/
import Derived.Test.YtdgaancbeakfdaaDoorRd
import Derived.Test.YtdgaancbeakfdaaDoorTells
namespace Go.Proofs.YtdgaancbeakfdaaDoor.Rb
open Go.RowKit Go.Proofs.YtdgaancbeakfdaaDoorW.PrintWords Go.Proofs.YtdgaancbeakfdaaDoor.Num Go.Proofs.YtdgaancbeakfdaaDoor.Vth Go.Proofs.YtdgaancbeakfdaaDoor.Vrd Go.Proofs.YtdgaancbeakfdaaDoor.Fth Go.Proofs.YtdgaancbeakfdaaDoor.Fbk Go.Proofs.YtdgaancbeakfdaaDoor.Giv Go.Proofs.YtdgaancbeakfdaaDoor.Q Go.Proofs.YtdgaancbeakfdaaDoor.Rt Go.Proofs.YtdgaancbeakfdaaDoor.Pt Go.Proofs.YtdgaancbeakfdaaDoor.Pp Go.Proofs.YtdgaancbeakfdaaDoor.Gp Go.Proofs.YtdgaancbeakfdaaDoor.Rd Go.Proofs.YtdgaancbeakfdaaDoor.Rrd Go.Proofs.YtdgaancbeakfdaaDoor.Tells
set_option linter.unusedVariables false
set_option linter.unusedSimpArgs false
/-- the bytes read so far -/
def tk (p : ByteArray) (n : Nat) : List Int := (bytesOf p).take n
theorem bytes_drop (p : ByteArray) (a : Nat) : bytesOf (p.extract a p.size) = (bytesOf p).drop a := by
  rw [bytes_ext, List.take_of_length_le (by rw [bytesOf_length]; omega)]
theorem dec_form_at (p : ByteArray) (a : Nat) (z : Int) (c : Nat) (h : dec 0 0 ((bytesOf p).drop a) = some (z, c)) : tk p (a + c) = tk p a ++ bytesOf (num (unzig z)) ∧ (-9223372036854775808 ≤ unzig z ∧ unzig z ≤ 9223372036854775807) := by
  have hb := zig_bd3 p a z c h
  have hu := unzig_bd z hb.1 hb.2
  have h' := h
  rw [← bytes_drop] at h'
  have hf := dec_form _ z c h' hu
  rw [bytes_drop] at hf
  unfold tk
  rw [List.take_add, hf]
  exact ⟨rfl, hu⟩
theorem rdN_back (p : ByteArray) (st : St) (h : (rdN p st).2.2 = false) : st.2 = false ∧ tk p (rdN p st).2.1 = tk p st.1 ++ bytesOf (num (rdN p st).1) := by
  obtain ⟨a, b⟩ := st
  cases b with
  | true => unfold rdN at h; simp at h
  | false =>
    refine ⟨rfl, ?_⟩
    unfold rdN at h ⊢
    rw [if_neg (by simp)] at h ⊢
    dsimp only at h ⊢
    cases hd : dec 0 0 ((bytesOf p).drop a) with
    | none => rw [hd] at h; simp at h
    | some q =>
      obtain ⟨z, c⟩ := q
      exact (dec_form_at p a z c hd).1
theorem rdT_back (p : ByteArray) (most : Int) (st : St) (hst : st.1 ≤ p.size) (h : (rdT p most st).2.2 = false) : st.2 = false ∧ tk p (rdT p most st).2.1 = tk p st.1 ++ bytesOf (text (rdT p most st).1) := by
  obtain ⟨a, b⟩ := st
  cases b with
  | true => unfold rdT at h; simp at h
  | false =>
    refine ⟨rfl, ?_⟩
    unfold rdT at h ⊢
    rw [if_neg (by simp)] at h ⊢
    dsimp only at h ⊢
    cases hd : dec 0 0 ((bytesOf p).drop a) with
    | none => rw [hd] at h; simp at h
    | some q =>
      obtain ⟨z, c⟩ := q
      rw [hd] at h
      dsimp only at h ⊢
      have hle := dec_le _ _ _ _ _ hd
      rw [drop_len] at hle
      replace hst : a ≤ p.size := hst
      by_cases hc : unzig z < 0 ∨ unzig z > most ∨ unzig z > (p.size : Int) - ((a + c : Nat) : Int)
      · rw [if_pos hc] at h; simp at h
      · rw [if_neg hc]
        dsimp only
        obtain ⟨hf, hu⟩ := dec_form_at p a z c hd
        have hsz : (p.extract (a + c) (a + c + (unzig z).toNat)).size = (unzig z).toNat := by rw [ByteArray.size_extract]; omega
        unfold text
        rw [hsz, Int.toNat_of_nonneg (by omega), bytes_append, bytes_ext, ← List.append_assoc, ← hf]
        unfold tk
        rw [List.take_add (i := a + c)]
        have hl : (List.take (a + c) (bytesOf p)).length = a + c := by rw [List.length_take, bytesOf_length]; omega
        rw [List.drop_left' hl]
/-- the numbers read -/
def rdL (p : ByteArray) (st : St) : Nat → List Int
  | 0 => []
  | i + 1 => rdL p st i ++ [rdV p st i]
theorem rdSt_back (p : ByteArray) (st : St) : ∀ i, (rdSt p st i).2 = false → st.2 = false ∧ tk p (rdSt p st i).1 = tk p st.1 ++ bytesOf (Pt.nums (rdL p st i))
  | 0, h => ⟨h, by simp [rdSt, rdL, Pt.nums, bytesOf]⟩
  | i + 1, h => by
    unfold rdSt at h ⊢
    obtain ⟨h1, h2⟩ := rdN_back p _ h
    obtain ⟨h3, h4⟩ := rdSt_back p st i h1
    refine ⟨h3, ?_⟩
    rw [h2, h4]
    show _ = tk p st.1 ++ bytesOf (Pt.nums (rdL p st i ++ [rdV p st i]))
    rw [Pt.nums_append, bytes_append, List.append_assoc]
    simp [Pt.nums, rdV]
theorem rdB_back (p : ByteArray) (st : St) (hst : st.1 ≤ p.size) (h : (rdB p st).2.2 = false) : st.2 = false ∧ tk p (rdB p st).2.1 = tk p st.1 ++ bytesOf (bindB (rdB p st).1) := by
  unfold rdB at h ⊢
  dsimp only at h ⊢
  obtain ⟨h1, h2⟩ := rdN_back p _ h
  have l1 := rdT_le p 12 st hst
  obtain ⟨h3, h4⟩ := rdT_back p 12 _ l1 h1
  obtain ⟨h5, h6⟩ := rdT_back p 12 _ hst h3
  refine ⟨h5, ?_⟩
  rw [h2, h4, h6]
  unfold bindB
  dsimp only
  rw [bytes_append, bytes_append]
  simp only [List.append_assoc]
theorem rdBs_back (p : ByteArray) (many : Int) : ∀ (d i : Nat) (acc : List S42) (st : St), st.1 ≤ p.size → (rdBs p many d i acc st).2.2 = false → st.2 = false ∧ ∃ m, (rdBs p many d i acc st).1 = acc ++ m ∧ tk p (rdBs p many d i acc st).2.1 = tk p st.1 ++ bytesOf (bindsB m) ∧ (m.length = d ∨ many ≤ i + m.length) ∧ (m.length = 0 ∨ (i : Int) + m.length ≤ many)
  | 0, i, acc, st, hst, h => by
    unfold rdBs at h ⊢
    exact ⟨h, [], by simp, by simp [bindsB, bytesOf], Or.inl rfl, Or.inl rfl⟩
  | d + 1, i, acc, st, hst, h => by
    unfold rdBs at h ⊢
    by_cases hc : (i : Int) < many ∧ st.2 = false
    · rw [if_pos hc] at h ⊢
      obtain ⟨h1, m, h2, h3, h4, h5⟩ := rdBs_back p many d (i + 1) _ _ (rdB_le p st hst) h
      obtain ⟨h6, h7⟩ := rdB_back p st hst h1
      refine ⟨h6, (rdB p st).1 :: m, by rw [h2]; simp, ?_, ?_, ?_⟩
      · rw [h3, h7, bindsB, bytes_append, List.append_assoc]
      · simp only [List.length_cons]; omega
      · simp only [List.length_cons]; omega
    · rw [if_neg hc] at h ⊢
      refine ⟨h, [], by simp, by simp [bindsB, bytesOf], Or.inr ?_, Or.inl rfl⟩
      have : ¬ (i : Int) < many := fun hh => hc ⟨hh, h⟩
      simp; omega
theorem rdBs_le (p : ByteArray) (many : Int) : ∀ (d i : Nat) (acc : List S42) (st : St), st.1 ≤ p.size → (rdBs p many d i acc st).2.1 ≤ p.size
  | 0, i, acc, st, hst => hst
  | d + 1, i, acc, st, hst => by
    unfold rdBs
    split
    · exact rdBs_le p many d (i + 1) _ _ (rdB_le p st hst)
    · exact hst
/-- a payload that is fine is a message's -/
theorem fine_payload (p : ByteArray) (h : fine p = true) : rightS (rdV p (0, false) 0) (rdV p (0, false) 1) (rdV p (0, false) 2) (rdV p (0, false) 3) (rdV p (0, false) 4) (rdV p (0, false) 5) (inside p).1 = true ∧ p = payload (rdV p (0, false) 0) (rdV p (0, false) 1) (rdV p (0, false) 2) (rdV p (0, false) 3) (rdV p (0, false) 4) (rdV p (0, false) 5) (inside p).1 := by
  unfold fine at h
  simp only [Bool.and_eq_true, Bool.not_eq_true', decide_eq_false_iff_not] at h
  obtain ⟨h1, h2, h3⟩ := h
  refine ⟨h3, ?_⟩
  obtain ⟨_, hl, _⟩ := right_in h3
  unfold ends at h2
  simp only [Bool.and_eq_true, Bool.not_eq_true', decide_eq_true_eq] at h2
  obtain ⟨h4, h5⟩ := h2
  have hst := rdSt_le p (0, false) (Nat.zero_le _) 7
  obtain ⟨b1, m, b2, b3, b4, b5⟩ := rdBs_back p (rdV p (0, false) 6) 65 0 [] (rdSt p (0, false) 7) hst h4
  have hin : rdBs p (rdV p (0, false) 6) 65 0 [] (rdSt p (0, false) 7) = inside p := rfl
  rw [hin] at b2 b3
  rw [List.nil_append] at b2
  obtain ⟨_, b6⟩ := rdSt_back p (0, false) 7 b1
  have hlen : ((inside p).1.length : Int) = rdV p (0, false) 6 := by rw [b2] at hl ⊢; omega
  apply bytes_inj
  have e : bytesOf p = tk p (inside p).2.1 := by unfold tk; rw [List.take_of_length_le]; rw [bytesOf_length]; omega
  rw [e, b3, b6]
  unfold payload
  rw [bytes_append, hlen, ← b2]
  rfl
theorem take_form (s : ByteArray) (h : (take s).2.2 = 0) (hu : (take s).2.1 = (s.size : Int)) : s = fr (take s).1 := by
  unfold take at h hu ⊢
  split at h
  · simp at h
  · rename_i h0
    rw [if_neg h0] at hu ⊢
    cases hd : dec 0 0 (bytesOf s) with
    | none => rw [hd] at h; dsimp only at h; split at h <;> simp at h
    | some q =>
      obtain ⟨z, c⟩ := q
      rw [hd] at h hu
      dsimp only at h hu ⊢
      obtain ⟨d1, d2, d3⟩ := dec_pos _ _ _ hd
      rw [bytesOf_length] at d3
      split at h
      · simp at h
      · rename_i h1
        rw [if_neg h1] at hu ⊢
        split at h
        · simp at h
        · rename_i h2
          rw [if_neg h2] at hu ⊢
          split at h
          · rename_i h3
            rw [if_pos h3] at hu ⊢
            dsimp only at hu ⊢
            have hx := text_of s z c (unzig z).toNat hd (by omega) (by omega) (by omega)
            unfold fr
            rw [← hx, h3, show c + (unzig z).toNat + 4 = s.size by omega, ext_all]
          · simp at h
/-- WHAT IS TAKEN UP IS WHAT IS LAID -/
theorem get_back {s : ByteArray} {a0 a1 a2 a3 a4 a5 : Int} {l : List S42} (h : getS s = (a0, a1, a2, a3, a4, a5, l, 0)) : rightS a0 a1 a2 a3 a4 a5 l = true ∧ s = fr (payload a0 a1 a2 a3 a4 a5 l) := by
  unfold getS at h
  split at h
  · rename_i hh
    obtain ⟨h1, h2, h3⟩ := hh
    have hs := take_form s h1 h2
    obtain ⟨hr, hp⟩ := fine_payload _ h3
    generalize (take s).1 = p at *
    injection h with e0 h
    injection h with e1 h
    injection h with e2 h
    injection h with e3 h
    injection h with e4 h
    injection h with e5 h
    injection h with e6 _
    rw [e0, e1, e2, e3, e4, e5, e6] at hr hp
    exact ⟨hr, by rw [← hp]; exact hs⟩
  · simp at h
theorem get_err (s : ByteArray) : (∃ a0 a1 a2 a3 a4 a5 l, rightS a0 a1 a2 a3 a4 a5 l = true ∧ s = fr (payload a0 a1 a2 a3 a4 a5 l) ∧ getS s = (a0, a1, a2, a3, a4, a5, l, 0)) ∨ (getS s = (0, 0, 0, 0, 0, 0, [], 160) ∧ ∀ a0 a1 a2 a3 a4 a5 l, rightS a0 a1 a2 a3 a4 a5 l = true → s ≠ fr (payload a0 a1 a2 a3 a4 a5 l)) := by
  by_cases hc : (take s).2.2 = 0 ∧ (take s).2.1 = (s.size : Int) ∧ fine (take s).1 = true
  · have h : getS s = (rdV (take s).1 (0, false) 0, rdV (take s).1 (0, false) 1, rdV (take s).1 (0, false) 2, rdV (take s).1 (0, false) 3, rdV (take s).1 (0, false) 4, rdV (take s).1 (0, false) 5, (inside (take s).1).1, 0) := if_pos hc
    obtain ⟨hr, hs⟩ := get_back h
    exact Or.inl ⟨_, _, _, _, _, _, _, hr, hs, h⟩
  · have h : getS s = (0, 0, 0, 0, 0, 0, [], 160) := if_neg hc
    refine Or.inr ⟨h, fun a0 a1 a2 a3 a4 a5 l hr hs => ?_⟩
    have := get_put hr
    rw [← hs, h] at this
    simp at this
end Go.Proofs.YtdgaancbeakfdaaDoor.Rb
