/- VarintReads: the plain law. -/
import Derived.Test.YtbgmgigjogoemaaRdm
import Derived.Test.YtbgmgigjogoemaaVaw
import Derived.Test.YtbgmgigjogoemaaQz0
namespace Go.Proofs.Ytbgmgigjogoemaa.Readsp
set_option linter.unusedVariables false
set_option linter.unusedSimpArgs false
open Go.RowKit Go.Proofs.YtbgmgigjogoemaaW.PrintWords Go.Proofs.YtbgmgigjogoemaaW.PrintLast Go.Proofs.YtbgmgigjogoemaaW.PrintMore Go.Proofs.Ytbgmgigjogoemaa.Num Go.Proofs.Ytbgmgigjogoemaa.Vth Go.Proofs.Ytbgmgigjogoemaa.Giv Go.Proofs.Ytbgmgigjogoemaa.Q Go.Proofs.Ytbgmgigjogoemaa.Vrd Go.Proofs.Ytbgmgigjogoemaa.Rrd Go.Proofs.Ytbgmgigjogoemaa.Rdm Go.Proofs.Ytbgmgigjogoemaa.Vaw
def ends (s : ByteArray) (a : Nat) (b : Bool) : Bool := !b && (s.size == a)
theorem rleft_eq (s : ByteArray) (a : Nat) (b : Bool) (h : a ≤ s.size) : billetref01_Reader_Left.f (rest s a) b = some ((s.size : Int) - a, rest s a, b) := by
  unfold billetref01_Reader_Left.f; rw [rest_size s a h]; congr 2; omega
theorem ends_eq (s : ByteArray) (a : Nat) (b : Bool) (h : a ≤ s.size) (hs : s.size ≤ 4611686018427387904) : varint_Reader_Ends.f s a b = some (ends s a b, s, (a : Int), b) := by
  unfold varint_Reader_Ends.f
  cases b with
  | true => rw [if_pos rfl]; rfl
  | false =>
    rw [if_neg (by simp), left_eq s a false h hs, Option.bind_some]
    dsimp only
    have e : ((s.size : Int) - a == 0) = ends s a false := by
      unfold ends
      rw [Bool.eq_iff_iff]; simp; omega
    rw [e]
theorem rends_eq (s : ByteArray) (a : Nat) (b : Bool) (h : a ≤ s.size) : billetref01_Reader_Ends.f (rest s a) b = some (ends s a b, rest s a, b) := by
  unfold billetref01_Reader_Ends.f
  cases b with
  | true => rw [if_pos rfl]; rfl
  | false =>
    rw [if_neg (by simp)]
    have hz := rest_size s a h
    have e : ((rest s a).toList == ([] : List UInt8)) = ends s a false := by
      unfold ends
      rw [Bool.eq_iff_iff, beq_iff_eq, toList_eq]
      have hl : (rest s a).data.toList.length = s.size - a := by rw [Array.length_toList]; exact hz
      simp
      constructor
      · intro h2
        have hz2 : (0 : Nat) = s.size - a := by rw [← hl, h2]; rfl
        omega
      · intro h2
        apply Array.toList_inj.1
        exact List.eq_nil_of_length_eq_zero (by omega)
    rw [e]
theorem loop (s : ByteArray) (hs : s.size ≤ 4611686018427387904) (l : List S39) (d : Nat) : ∀ (k i a : Nat) (bad : Bool), i + d = 300 → s.size + 4 * d + 60 ≤ k → a ≤ s.size → i ≤ l.length →
    billetlaw01_VarintReads.l0 k l i s a bad (rest s a) bad = some true := by
  have fin : ∀ (k i a : Nat) (bad : Bool), s.size + 50 ≤ k → a ≤ s.size → billetlaw01_VarintReads.j2 k l i false s a bad (rest s a) bad = some true := by
    intro k i a bad hk ha
    obtain ⟨k, rfl⟩ : ∃ m, k = m + 1 := ⟨k - 1, by omega⟩
    simp only [billetlaw01_VarintReads.j2]
    rw [if_neg (by simp), ends_eq s a bad ha hs, Option.bind_some, rends_eq s a bad ha, Option.bind_some]
    dsimp only
    rw [if_pos (by simp), left_eq s a bad ha hs, Option.bind_some, rleft_eq s a bad ha, Option.bind_some]
    simp
  induction d with
  | zero =>
    intro k i a bad hd hk ha hi
    obtain ⟨k, rfl⟩ : ∃ m, k = m + 1 := ⟨k - 1, by omega⟩
    simp only [billetlaw01_VarintReads.l0]
    have e : decide ((i : Int) < 300) = false := by simp; omega
    rw [e]
    split
    · exact fin k i a bad (by omega) ha
    · exact fin k i a bad (by omega) ha
  | succ d ih =>
    intro k i a bad hd hk ha hi
    have next : ∀ (k a' : Nat) (bad' : Bool), s.size + 4 * d + 61 ≤ k → a' ≤ s.size → i < l.length → billetlaw01_VarintReads.j3 k l i s a' bad' (rest s a') bad' = some true := by
      intro k a' bad' hk ha' hil
      obtain ⟨k, rfl⟩ : ∃ m, k = m + 1 := ⟨k - 1, by omega⟩
      simp only [billetlaw01_VarintReads.j3]
      rw [left_eq s a' bad' ha' hs, Option.bind_some, rleft_eq s a' bad' ha', Option.bind_some]
      dsimp only
      rw [if_pos rfl, show varint_Reader_Bad.f s a' bad' = some (bad', s, (a' : Int), bad') from rfl, Option.bind_some, show billetref01_Reader_Bad.f (rest s a') bad' = some (bad', rest s a', bad') from rfl, Option.bind_some]
      dsimp only
      rw [if_neg (by simp), ends_eq s a' bad' ha' hs, Option.bind_some, rends_eq s a' bad' ha', Option.bind_some]
      dsimp only
      rw [if_neg (by simp), wrap_in _ (by omega) (by omega), show (i : Int) + 1 = ((i + 1 : Nat) : Int) by omega]
      exact ih k (i + 1) a' bad' (by omega) (by omega) ha' (by omega)
    obtain ⟨k, rfl⟩ : ∃ m, k = m + 2 := ⟨k - 2, by omega⟩
    simp only [billetlaw01_VarintReads.l0]
    by_cases h : i < l.length
    · have e : decide ((i : Int) < 300) = true := by simp; omega
      rw [if_pos (by omega), e]
      simp only [billetlaw01_VarintReads.j2]
      rw [if_pos trivial, if_pos (by omega), if_pos (by omega)]
      by_cases h2 : Int.tmod ((rd_T39 l i).f0) 2 = 0
      · rw [if_pos h2]
        obtain ⟨v, a', bad', e2, e3, ha'⟩ := both_num s hs a ha bad k (by omega)
        rw [e2, Option.bind_some, e3, Option.bind_some]
        dsimp only
        rw [if_pos rfl]
        exact next k a' bad' (by omega) ha' h
      · rw [if_neg h2]
        obtain ⟨v, a', bad', e2, e3, ha'⟩ := both_text s hs a ha bad ((rd_T39 l i).f1) k (by omega)
        rw [e2, Option.bind_some, e3, Option.bind_some]
        dsimp only
        rw [if_pos rfl]
        exact next k a' bad' (by omega) ha' h
    · rw [if_neg (by omega)]
      exact fin (k + 1) i a bad (by omega) ha
theorem VarintReads (s : ByteArray) (hs : s.size ≤ 4611686018427387904) (l : List S39) : ∃ k, billetlaw01_VarintReads.f k s l = some true := by
  refine ⟨s.size + 1400, ?_⟩
  generalize hk : s.size + 1400 = k
  unfold billetlaw01_VarintReads.f
  rw [awake_yes k (by omega), Option.bind_some, show varint_New.f s = some (s, 0, false) from rfl, Option.bind_some, show billetref01_New.f s = some (s, false) from rfl, Option.bind_some, if_pos rfl]
  obtain ⟨k, rfl⟩ : ∃ m, k = m + 1 := ⟨k - 1, by omega⟩
  simp only [billetlaw01_VarintReads.j0]
  rw [if_neg (by simp)]
  have h := loop s hs l 300 k 0 0 false rfl (by omega) (by omega) (by omega)
  rw [rest_zero] at h
  exact h
theorem walk (a0 : ByteArray) (A1 : Option Addr) (c1 : Nat) (l1 : List S39) (w : World) (w0 : a0.size ≤ 140737488351232) (hr1 : Kd.C k39 w A1 l1.length l1) (hc1 : l1.length ≤ c1) {V : Prop} (_ : V) :
    Calls Try.prog 9 #[.string a0, .slice A1 l1.length c1] w fun e w' => e = .returned (.bool true) ∧ Below w.heap.size w w' := by
  obtain ⟨k, hk⟩ := VarintReads a0 (by omega) l1
  exact billetlaw01_VarintReads.calls k a0 A1 c1 l1 true w hr1 hc1 hk
end Go.Proofs.Ytbgmgigjogoemaa.Readsp
