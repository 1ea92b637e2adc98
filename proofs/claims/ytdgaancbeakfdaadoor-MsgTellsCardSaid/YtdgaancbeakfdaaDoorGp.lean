/- msg.Get in plain words: what is taken up of a text. -/
import Derived.Test.YtdgaancbeakfdaaDoorPp
import Derived.Test.YtdgaancbeakfdaaDoorQy3
import Derived.Test.YtdgaancbeakfdaaDoorQy2
namespace Go.Proofs.YtdgaancbeakfdaaDoor.Gp
open Go.RowKit Go.Proofs.YtdgaancbeakfdaaDoorW.PrintWords Go.Proofs.YtdgaancbeakfdaaDoor.Num Go.Proofs.YtdgaancbeakfdaaDoor.Vth Go.Proofs.YtdgaancbeakfdaaDoor.Vrd Go.Proofs.YtdgaancbeakfdaaDoor.Fth Go.Proofs.YtdgaancbeakfdaaDoor.Giv Go.Proofs.YtdgaancbeakfdaaDoor.Q Go.Proofs.YtdgaancbeakfdaaDoor.Rt Go.Proofs.YtdgaancbeakfdaaDoor.Pp
set_option linter.unusedVariables false
set_option linter.unusedSimpArgs false
/-- where a reader stands, and is it bad -/
abbrev St := Nat × Bool
/-- a number taken up -/
def rdN (p : ByteArray) (st : St) : Int × St := if st.2 = true then (0, st.1, true) else match dec 0 0 ((bytesOf p).drop st.1) with
  | none => (0, st.1, true)
  | some (z, c) => (unzig z, st.1 + c, false)
/-- a text taken up -/
def rdT (p : ByteArray) (most : Int) (st : St) : ByteArray × St := if st.2 = true then (⟨#[]⟩, st.1, true) else match dec 0 0 ((bytesOf p).drop st.1) with
  | none => (⟨#[]⟩, st.1, true)
  | some (z, c) => if unzig z < 0 ∨ unzig z > most ∨ unzig z > (p.size : Int) - ((st.1 + c : Nat) : Int) then (⟨#[]⟩, st.1 + c, true) else (p.extract (st.1 + c) (st.1 + c + (unzig z).toNat), st.1 + c + (unzig z).toNat, false)
theorem drop_len (p : ByteArray) (a : Nat) : ((bytesOf p).drop a).length = p.size - a := by rw [List.length_drop, bytesOf_length]
theorem rdN_le (p : ByteArray) (st : St) (h : st.1 ≤ p.size) : (rdN p st).2.1 ≤ p.size := by
  unfold rdN
  split
  · exact h
  · cases hd : dec 0 0 ((bytesOf p).drop st.1) with
    | none => exact h
    | some q =>
      obtain ⟨z, c⟩ := q
      have := dec_le _ _ _ _ _ hd
      rw [drop_len] at this
      show st.1 + c ≤ p.size
      omega
theorem rdT_le (p : ByteArray) (most : Int) (st : St) (h : st.1 ≤ p.size) : (rdT p most st).2.1 ≤ p.size := by
  unfold rdT
  split
  · exact h
  · cases hd : dec 0 0 ((bytesOf p).drop st.1) with
    | none => exact h
    | some q =>
      obtain ⟨z, c⟩ := q
      have := dec_le _ _ _ _ _ hd
      rw [drop_len] at this
      dsimp only
      split
      · show st.1 + c ≤ p.size; omega
      · show st.1 + c + (unzig z).toNat ≤ p.size; omega
theorem rdN_f (p : ByteArray) (hp : p.size ≤ 4611686018427387904) (st : St) (h : st.1 ≤ p.size) : varint_Reader_Num.f 40 p (st.1 : Int) st.2 = some ((rdN p st).1, p, ((rdN p st).2.1 : Int), (rdN p st).2.2) := by
  obtain ⟨a, b⟩ := st
  cases b with
  | true => exact Num_bad p a 40 (by omega)
  | false =>
    refine (Num_good p hp a h 40 (by omega)).trans ?_
    unfold rdN
    rw [if_neg (by simp)]
    dsimp only
    cases dec 0 0 ((bytesOf p).drop a) with
    | none => rfl
    | some q => rfl
theorem rdT_f (p : ByteArray) (hp : p.size ≤ 4611686018427387904) (most : Int) (st : St) (h : st.1 ≤ p.size) : varint_Reader_Text.f 40 p (st.1 : Int) st.2 most = some ((rdT p most st).1, p, ((rdT p most st).2.1 : Int), (rdT p most st).2.2) := by
  obtain ⟨a, b⟩ := st
  cases b with
  | true => exact Text_bad p a most 40 (by omega)
  | false =>
    refine (Text_good p hp a h most 40 (by omega)).trans ?_
    unfold rdT
    rw [if_neg (by simp)]
    dsimp only
    cases dec 0 0 ((bytesOf p).drop a) with
    | none => rfl
    | some q =>
      obtain ⟨z, c⟩ := q
      unfold tout
      dsimp only
      by_cases hc : unzig z < 0 ∨ unzig z > most ∨ unzig z > (p.size : Int) - ((a + c : Nat) : Int)
      · rw [if_pos hc, if_pos hc]
      · rw [if_neg hc, if_neg hc]
        have : ((a + c : Nat) : Int) + unzig z = ((a + c + (unzig z).toNat : Nat) : Int) := by omega
        rw [this]
/-- n numbers, one behind the other -/
def rdSt (p : ByteArray) (st : St) : Nat → St
  | 0 => st
  | i + 1 => (rdN p (rdSt p st i)).2
def rdV (p : ByteArray) (st : St) (i : Nat) : Int := (rdN p (rdSt p st i)).1
theorem rdSt_le (p : ByteArray) (st : St) (h : st.1 ≤ p.size) : ∀ i, (rdSt p st i).1 ≤ p.size
  | 0 => h
  | i + 1 => rdN_le p _ (rdSt_le p st h i)
/-- a bind taken up -/
def rdB (p : ByteArray) (st : St) : S42 × St :=
  (⟨(rdT p 12 st).1, (rdT p 12 (rdT p 12 st).2).1, (rdN p (rdT p 12 (rdT p 12 st).2).2).1⟩, (rdN p (rdT p 12 (rdT p 12 st).2).2).2)
theorem rdB_le (p : ByteArray) (st : St) (h : st.1 ≤ p.size) : (rdB p st).2.1 ≤ p.size := rdN_le p _ (rdT_le p 12 _ (rdT_le p 12 st h))
/-- the binds, as many as are told -/
def rdBs (p : ByteArray) (many : Int) : Nat → Nat → List S42 → St → List S42 × St
  | 0, _, acc, st => (acc, st)
  | d + 1, i, acc, st => if (i : Int) < many ∧ st.2 = false then rdBs p many d (i + 1) (acc ++ [(rdB p st).1]) (rdB p st).2 else (acc, st)
def ends (p : ByteArray) (st : St) : Bool := !st.2 && decide (p.size = st.1)
theorem ends_f (p : ByteArray) (hp : p.size ≤ 4611686018427387904) (st : St) (h : st.1 ≤ p.size) : varint_Reader_Ends.f p (st.1 : Int) st.2 = some (ends p st, p, (st.1 : Int), st.2) := by
  obtain ⟨a, b⟩ := st
  unfold varint_Reader_Ends.f ends
  cases b with
  | true => rw [if_pos rfl]; rfl
  | false =>
    rw [if_neg (by simp), left_eq p a false h hp]
    simp only [Option.bind_some, Bool.not_false, Bool.true_and]
    congr 2
    rw [Bool.eq_iff_iff, beq_iff_eq, decide_eq_true_eq]
    omega
/-- what is in a payload -/
def inside (p : ByteArray) : List S42 × St := rdBs p (rdV p (0, false) 6) 65 0 [] (rdSt p (0, false) 7)
def fine (p : ByteArray) : Bool := !decide (rdV p (0, false) 6 < 0) && (ends p (inside p).2 && rightS (rdV p (0, false) 0) (rdV p (0, false) 1) (rdV p (0, false) 2) (rdV p (0, false) 3) (rdV p (0, false) 4) (rdV p (0, false) 5) (inside p).1)
abbrev Ans := Int × Int × Int × Int × Int × Int × List S42 × Int
/-- msg.Get's answer -/
def getS (s : ByteArray) : Ans :=
  if (take s).2.2 = 0 ∧ (take s).2.1 = (s.size : Int) ∧ fine (take s).1 = true then
    (rdV (take s).1 (0, false) 0, rdV (take s).1 (0, false) 1, rdV (take s).1 (0, false) 2, rdV (take s).1 (0, false) 3, rdV (take s).1 (0, false) 4, rdV (take s).1 (0, false) 5, (inside (take s).1).1, 0)
  else (0, 0, 0, 0, 0, 0, [], 160)
theorem rdBs_len (p : ByteArray) (many : Int) : ∀ (d i : Nat) (acc : List S42) (st : St), (rdBs p many d i acc st).1.length ≤ acc.length + d
  | 0, i, acc, st => by simp [rdBs]
  | d + 1, i, acc, st => by
    unfold rdBs
    split
    · have := rdBs_len p many d (i + 1) (acc ++ [(rdB p st).1]) (rdB p st).2
      simp at this; omega
    · simp
theorem take_small (s : ByteArray) (hs : s.size ≤ 4611686018427387904) : (take s).1.size ≤ 4096 := by
  unfold take
  split
  · decide
  · cases hd : dec 0 0 (bytesOf s) with
    | none => dsimp only; split <;> decide
    | some q =>
      obtain ⟨z, c⟩ := q
      dsimp only
      split
      · decide
      · split
        · decide
        · split
          · rw [ByteArray.size_extract]; omega
          · decide
end Go.Proofs.YtdgaancbeakfdaaDoor.Gp
