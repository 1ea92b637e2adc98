/- Once bad, always bad: the plain part, for every text and all takes. -/
import Derived.Test.YtbgmgigjogoemaaVaw
import Derived.Test.YtbgmgigjogoemaaQx30
namespace Go.Proofs.Ytbgmgigjogoemaa.Badp
open Go.RowKit Go.Proofs.YtbgmgigjogoemaaW.PrintWords Go.Proofs.YtbgmgigjogoemaaW.PrintLast Go.Proofs.YtbgmgigjogoemaaW.PrintMore Go.Proofs.Ytbgmgigjogoemaa.Num Go.Proofs.Ytbgmgigjogoemaa.Vth Go.Proofs.Ytbgmgigjogoemaa.Giv Go.Proofs.Ytbgmgigjogoemaa.Q Go.Proofs.Ytbgmgigjogoemaa.Vrd Go.Proofs.Ytbgmgigjogoemaa.Vaw
theorem bad_l0 (s : ByteArray) (S : ByteArray) (l : List S39) (a : Nat) (ha : a ≤ S.size) (hS : S.size ≤ 4611686018427387904) (hs : (S.size : Int) - a = s.size) (d : Nat) : ∀ (k i : Nat), i + d = min l.length 100 → 2 * d + 60 ≤ k →
    billetlaw01_VarintBad.l0 k s l (s.size : Int) i S a true = some true := by
  induction d with
  | zero =>
    intro k i hd hk
    obtain ⟨k, rfl⟩ : ∃ m, k = m + 2 := ⟨k - 2, by omega⟩
    have hj : billetlaw01_VarintBad.j2 (k + 1) s l (s.size : Int) i false S a true = some true := by
      simp only [billetlaw01_VarintBad.j2]
      rw [if_neg (by simp), show varint_Reader_Bad.f S a true = some (true, S, (a : Int), true) from rfl, Option.bind_some]
      dsimp only
      rw [if_pos rfl]; simp
    simp only [billetlaw01_VarintBad.l0]
    by_cases h : (i : Int) < l.length
    · rw [if_pos h, show decide ((i : Int) < 100) = false by simp; omega]; exact hj
    · rw [if_neg h]; exact hj
  | succ d ih =>
    intro k i hd hk
    obtain ⟨k, rfl⟩ : ∃ m, k = m + 2 := ⟨k - 2, by omega⟩
    simp only [billetlaw01_VarintBad.l0]
    rw [if_pos (by omega), show decide ((i : Int) < 100) = true by simp; omega]
    simp only [billetlaw01_VarintBad.j2]
    have hst := ih k (i + 1) (by omega) (by omega)
    rw [if_pos trivial, if_pos (by omega), if_pos (by omega), wrap_in ((i : Int) + 1) (by omega) (by omega), show (i : Int) + 1 = ((i + 1 : Nat) : Int) by omega]
    have hends : varint_Reader_Ends.f S a true = some (false, S, (a : Int), true) := rfl
    split
    · rw [Num_bad S a k (by omega), Option.bind_some]
      dsimp only
      rw [if_pos rfl, show varint_Reader_Bad.f S a true = some (true, S, (a : Int), true) from rfl, Option.bind_some]
      dsimp only
      rw [if_pos rfl, left_eq S a true ha hS, Option.bind_some]
      dsimp only
      rw [if_pos hs, hends, Option.bind_some]
      dsimp only
      rw [if_neg (by simp)]
      exact hst
    · rw [Text_bad S a _ k (by omega), Option.bind_some]
      dsimp only
      rw [if_pos (by rw [toList_eq]), show varint_Reader_Bad.f S a true = some (true, S, (a : Int), true) from rfl, Option.bind_some]
      dsimp only
      rw [if_pos rfl, left_eq S a true ha hS, Option.bind_some]
      dsimp only
      rw [if_pos hs, hends, Option.bind_some]
      dsimp only
      rw [if_neg (by simp)]
      exact hst
theorem bad (s : ByteArray) (l : List S39) (hs : s.size ≤ 140737488351232) : ∃ k, billetlaw01_VarintBad.f k s l = some true := by
  refine ⟨300, ?_⟩
  have hz : (num (-1)).size = 1 := by rw [num_size]; decide +kernel
  have hS : (num (-1) ++ s).size = 1 + s.size := by rw [ByteArray.size_append, hz]
  unfold billetlaw01_VarintBad.f
  rw [awake_yes 300 (by omega), Option.bind_some, Numf (-1) (by omega) (by omega), Option.bind_some, if_pos (by omega), show varint_New.f (num (-1) ++ s) = some (num (-1) ++ s, 0, false) from rfl, Option.bind_some, if_pos rfl]
  dsimp only
  have e1 := Text_good (num (-1) ++ s) (by omega) 0 (by omega) 100 300 (by omega)
  have ed : dec 0 0 ((bytesOf (num (-1) ++ s)).drop 0) = some (zig (-1), (num (-1)).size) := by
    rw [List.drop_zero, bytes_append]; exact dec_num (-1) _ (by omega) (by omega)
  rw [ed] at e1
  have et : tout (num (-1) ++ s) 0 100 (some (zig (-1), (num (-1)).size)) = (⟨#[]⟩, num (-1) ++ s, ((1 : Nat) : Int), true) := by
    simp only [tout, unzig_zig, hz]
    rw [if_pos (by omega)]
  rw [et] at e1
  rw [show (0 : Int) = ((0 : Nat) : Int) from rfl, e1, Option.bind_some]
  dsimp only
  rw [show ((⟨#[]⟩ : ByteArray).toList != ([] : List UInt8)) = false by rw [toList_eq]; rfl]
  dsimp only [billetlaw01_VarintBad.j0]
  rw [if_neg (by simp), left_eq _ 1 true (by omega) (by omega), Option.bind_some]
  dsimp only
  have := bad_l0 s (num (-1) ++ s) l 1 (by omega) (by omega) (by omega) (min l.length 100) 299 0 (by omega) (by omega)
  rw [show (((num (-1) ++ s).size : Nat) : Int) - ((1 : Nat) : Int) = s.size by omega]
  exact this
theorem walk (a0 : ByteArray) (A1 : Option Addr) (c1 : Nat) (l1 : List S39) (w : World) (w0 : a0.size ≤ 140737488351232) (hr1 : Kd.C k39 w A1 l1.length l1) (hc1 : l1.length ≤ c1) {V : Prop} (_ : V) :
    Calls Try.prog 11 #[.string a0, .slice A1 l1.length c1] w fun e w' => e = .returned (.bool true) ∧ Below w.heap.size w w' := by
  obtain ⟨k, hk⟩ := bad a0 l1 w0
  exact billetlaw01_VarintBad.calls k a0 A1 c1 l1 true w hr1 hc1 hk
end Go.Proofs.Ytbgmgigjogoemaa.Badp
