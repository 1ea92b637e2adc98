/- What is laid is read back, in its order, and then it ends: the plain part, for all lists of numbers and of texts. -/
import Derived.Test.YtbgmgigjogoemaaVaw
import Derived.Test.YtbgmgigjogoemaaQx29
namespace Go.Proofs.Ytbgmgigjogoemaa.Backp
open Go.RowKit Go.Proofs.YtbgmgigjogoemaaW.PrintWords Go.Proofs.YtbgmgigjogoemaaW.PrintLast Go.Proofs.YtbgmgigjogoemaaW.PrintMore Go.Proofs.Ytbgmgigjogoemaa.Num Go.Proofs.Ytbgmgigjogoemaa.Vth Go.Proofs.Ytbgmgigjogoemaa.Giv Go.Proofs.Ytbgmgigjogoemaa.Q Go.Proofs.Ytbgmgigjogoemaa.Vrd Go.Proofs.Ytbgmgigjogoemaa.Vaw
set_option linter.unusedSectionVars false
set_option linter.unusedVariables false
def pc (a : List Int) (b : List ByteArray) (i : Nat) : ByteArray := if i < b.length then num (rd a i) ++ text (rdOf ByteArray.empty b i) else num (rd a i)
def pre (a : List Int) (b : List ByteArray) : Nat → ByteArray
  | 0 => ByteArray.empty
  | i + 1 => pre a b i ++ pc a b i
def suf (a : List Int) (b : List ByteArray) : Nat → Nat → ByteArray
  | _, 0 => ByteArray.empty
  | i, d + 1 => pc a b i ++ suf a b (i + 1) d
theorem pre_suf (a : List Int) (b : List ByteArray) (d : Nat) : ∀ i, pre a b i ++ suf a b i d = pre a b (i + d) := by
  induction d with
  | zero => intro i; simp [suf]
  | succ d ih => intro i; rw [suf, ← ByteArray.append_assoc, ← pre, ih (i + 1)]; congr 1; omega
theorem rd_in {l : List Int} (hl : ∀ x ∈ l, -9223372036854775808 ≤ x ∧ x ≤ 9223372036854775807) (i : Nat) (h : i < l.length) : -9223372036854775808 ≤ rd l i ∧ rd l i ≤ 9223372036854775807 := by
  have : rd l i = l[i] := by simp [rd, List.getD_eq_getElem?_getD, List.getElem?_eq_getElem h]
  rw [this]; exact hl _ (List.getElem_mem h)
theorem rdOf_in {l : List ByteArray} (hl : ∀ x ∈ l, x.size ≤ 140737488351232) (i : Nat) (h : i < l.length) : (rdOf ByteArray.empty l i).size ≤ 140737488351232 := by
  have : rdOf ByteArray.empty l i = l[i] := by simp [rdOf, List.getD_eq_getElem?_getD, List.getElem?_eq_getElem h]
  rw [this]; exact hl _ (List.getElem_mem h)
section
variable (a : List Int) (b : List ByteArray) (ha : ∀ x ∈ a, -9223372036854775808 ≤ x ∧ x ≤ 9223372036854775807) (hb : ∀ x ∈ b, x.size ≤ 140737488351232)
include ha hb
theorem pc_size (i : Nat) (hi : i < a.length) : (pc a b i).size ≤ 140737488351272 := by
  have h1 := num_size_bd (rd a i)
  unfold pc
  split
  · rename_i h
    have h2 := rdOf_in hb i h
    have h3 := num_size_bd (rdOf ByteArray.empty b i).size
    rw [ByteArray.size_append]; unfold text; rw [ByteArray.size_append]; omega
  · omega
theorem pre_size (i : Nat) (hi : i ≤ a.length) : (pre a b i).size ≤ 140737488351272 * i := by
  induction i with
  | zero => exact Nat.le_refl _
  | succ i ih =>
    have := ih (by omega)
    have := pc_size a b ha hb i (by omega)
    rw [pre, ByteArray.size_append]; omega
theorem back_l0 (n : Nat) (hn : n = min a.length 50) (d : Nat) : ∀ (k i : Nat), i + d = n → billetlaw01_VarintBack.l0 (k + 2 * d + 2) a b true (pre a b i) i = billetlaw01_VarintBack.j2 k a b false (pre a b n) 0 false := by
  induction d with
  | zero =>
    intro k i hd
    obtain rfl : i = n := by omega
    have hj : billetlaw01_VarintBack.j1 (k + 1) a b true (pre a b i) i false = billetlaw01_VarintBack.j2 k a b false (pre a b i) 0 false := by
      simp only [billetlaw01_VarintBack.j1]
      rw [if_neg (by simp), show varint_New.f (pre a b i) = some (pre a b i, 0, false) from rfl, Option.bind_some, if_pos trivial]
    simp only [billetlaw01_VarintBack.l0]
    by_cases h : (i : Int) < a.length
    · rw [if_pos h, show decide ((i : Int) < 50) = false by simp; omega]; exact hj
    · rw [if_neg h]; exact hj
  | succ d ih =>
    intro k i hd
    have hr := rd_in ha i (by omega)
    have hz := num_size_bd (rd a i)
    have hps := pre_size a b ha hb i (by omega)
    obtain ⟨m, hm⟩ : ∃ m, k + 2 * d + 2 = m := ⟨_, rfl⟩
    rw [show k + 2 * (d + 1) + 2 = m + 2 by omega]
    simp only [billetlaw01_VarintBack.l0]
    rw [if_pos (by omega), show decide ((i : Int) < 50) = true by simp; omega]
    simp only [billetlaw01_VarintBack.j1]
    rw [if_pos trivial, if_pos (by omega), if_pos (by omega), Numf _ hr.1 hr.2, Option.bind_some, if_pos (by omega), wrap_in ((i : Int) + 1) (by omega) (by omega), show (i : Int) + 1 = ((i + 1 : Nat) : Int) by omega]
    have hst := ih k (i + 1) (by omega)
    rw [hm, pre] at hst
    by_cases h : i < b.length
    · have ht := rdOf_in hb i h
      have hz2 := num_size_bd (rdOf ByteArray.empty b i).size
      have hts : (text (rdOf ByteArray.empty b i)).size = (num (rdOf ByteArray.empty b i).size).size + (rdOf ByteArray.empty b i).size := by unfold text; rw [ByteArray.size_append]
      rw [if_pos (by omega), Textf _ (by omega), Option.bind_some, if_pos (by rw [ByteArray.size_append]; omega), ← hst, pc, if_pos h, ByteArray.append_assoc]
    · rw [if_neg (by omega), ← hst, pc, if_neg h]
theorem back_l1 (n : Nat) (hn : n = min a.length 50) (d : Nat) : ∀ (k i : Nat), i + d = n → 50 ≤ k → billetlaw01_VarintBack.l1 (k + 2 * d + 2) a b i (pre a b n) (((pre a b i).size : Nat) : Int) false = some true := by
  have hs := pre_size a b ha hb n (by omega)
  induction d with
  | zero =>
    intro k i hd hk
    obtain rfl : i = n := by omega
    have hj : billetlaw01_VarintBack.j4 (k + 1) a b i false (pre a b i) (((pre a b i).size : Nat) : Int) false = some true := by
      simp only [billetlaw01_VarintBack.j4]
      rw [if_neg (by simp)]
      unfold varint_Reader_Ends.f
      rw [if_neg (by simp), left_eq _ _ false (by omega) (by omega)]
      simp only [Option.bind_some]
      rw [if_pos (by simp), show varint_Reader_Bad.f (pre a b i) (((pre a b i).size : Nat) : Int) false = some (false, pre a b i, (((pre a b i).size : Nat) : Int), false) from rfl]
      simp only [Option.bind_some]
      rw [if_neg (by simp), left_eq _ _ false (by omega) (by omega)]
      simp
    simp only [billetlaw01_VarintBack.l1]
    by_cases h : (i : Int) < a.length
    · rw [if_pos h, show decide ((i : Int) < 50) = false by simp; omega]; exact hj
    · rw [if_neg h]; exact hj
  | succ d ih =>
    intro k i hd hk
    have hr := rd_in ha i (by omega)
    obtain ⟨m, hm⟩ : ∃ m, k + 2 * d + 2 = m := ⟨_, rfl⟩
    rw [show k + 2 * (d + 1) + 2 = m + 2 by omega]
    simp only [billetlaw01_VarintBack.l1]
    rw [if_pos (by omega), show decide ((i : Int) < 50) = true by simp; omega]
    simp only [billetlaw01_VarintBack.j4]
    have hall : pre a b n = pre a b i ++ pc a b i ++ suf a b (i + 1) d := by
      rw [show n = i + (d + 1) by omega, ← pre_suf, suf, ByteArray.append_assoc]
    have hst := ih k (i + 1) (by omega) hk
    rw [hm] at hst
    by_cases h : i < b.length
    · have ht := rdOf_in hb i h
      have hpc : pc a b i = num (rd a i) ++ text (rdOf ByteArray.empty b i) := by rw [pc, if_pos h]
      have e1 := Num_at (pre a b n) (pre a b i) (text (rdOf ByteArray.empty b i) ++ suf a b (i + 1) d) (rd a i) (by omega) hr.1 hr.2 (by rw [hall, hpc]; simp only [ByteArray.append_assoc]) m (by omega)
      have e2 := Text_at (pre a b n) (pre a b i ++ num (rd a i)) (rdOf ByteArray.empty b i) (suf a b (i + 1) d) ((rdOf ByteArray.empty b i).size : Int) (by omega) (by rw [hall, hpc]; simp only [ByteArray.append_assoc]) (by omega) m (by omega)
      rw [if_pos trivial, e1, Option.bind_some]
      dsimp only
      rw [if_pos (by omega), if_pos (by omega), if_pos rfl, if_pos (by omega), e2, Option.bind_some]
      dsimp only
      rw [if_pos rfl, wrap_in ((i : Int) + 1) (by omega) (by omega), show (i : Int) + 1 = ((i + 1 : Nat) : Int) by omega]
      rw [pre, hpc, ← ByteArray.append_assoc] at hst
      exact hst
    · have hpc : pc a b i = num (rd a i) := by rw [pc, if_neg h]
      have e1 := Num_at (pre a b n) (pre a b i) (suf a b (i + 1) d) (rd a i) (by omega) hr.1 hr.2 (by rw [hall, hpc]) m (by omega)
      rw [if_pos trivial, e1, Option.bind_some]
      dsimp only
      rw [if_pos (by omega), if_pos (by omega), if_pos rfl, if_neg (by omega), wrap_in ((i : Int) + 1) (by omega) (by omega), show (i : Int) + 1 = ((i + 1 : Nat) : Int) by omega]
      rw [pre, hpc] at hst
      exact hst
theorem back : ∃ k, billetlaw01_VarintBack.f k a b = some true := by
  refine ⟨400, ?_⟩
  unfold billetlaw01_VarintBack.f
  rw [awake_yes 400 (by omega), Option.bind_some]
  have e0 := back_l0 a b ha hb (min a.length 50) rfl (min a.length 50) (398 - 2 * min a.length 50) 0 (by omega)
  rw [show 398 - 2 * min a.length 50 + 2 * min a.length 50 + 2 = 400 by omega] at e0
  refine Eq.trans e0 ?_
  obtain ⟨m, hm⟩ : ∃ m, 398 - 2 * min a.length 50 = m + 1 := ⟨397 - 2 * min a.length 50, by omega⟩
  rw [hm]
  simp only [billetlaw01_VarintBack.j2]
  rw [if_neg (by simp)]
  have e1 := back_l1 a b ha hb (min a.length 50) rfl (min a.length 50) (m - 2 * min a.length 50 - 2) 0 (by omega) (by omega)
  rw [show m - 2 * min a.length 50 - 2 + 2 * min a.length 50 + 2 = m by omega] at e1
  exact e1
end
theorem walk (A0 : Option Addr) (c0 : Nat) (l0 : List Int) (A1 : Option Addr) (c1 : Nat) (l1 : List ByteArray) (w : World) (hr0 : Kd.C (Kd.int .i64) w A0 l0.length l0) (hc0 : l0.length ≤ c0)
    (hV0 : l0.length ≤ maxLen ∧ l0.length * 8 ≤ 140737488351232 ∧ ∀ x ∈ l0, (Lit.int .i64 x).wf = true) (hr1 : Kd.C Kd.string w A1 l1.length l1) (hc1 : l1.length ≤ c1)
    (hV1 : l1.length ≤ maxLen ∧ l1.length * 16 ≤ 140737488351232 ∧ ∀ x ∈ l1, x.size ≤ 140737488351232) :
    Calls Try.prog 10 #[.slice A0 l0.length c0, .slice A1 l1.length c1] w fun e w' => e = .returned (.bool true) ∧ Below w.heap.size w w' := by
  obtain ⟨k, hk⟩ := back l0 l1 (fun x hx => int64_bd (hV0.2.2 x hx)) hV1.2.2
  exact billetlaw01_VarintBack.calls k A0 c0 l0 A1 c1 l1 true w hr0 hc0 hr1 hc1 hk
end Go.Proofs.Ytbgmgigjogoemaa.Backp
