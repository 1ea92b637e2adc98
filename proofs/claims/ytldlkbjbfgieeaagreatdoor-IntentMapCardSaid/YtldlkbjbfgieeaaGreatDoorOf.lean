/- What Op makes is right. -/
import Derived.Test.YtldlkbjbfgieeaaGreatDoorOp
import Derived.Test.YtldlkbjbfgieeaaGreatDoorLa
namespace Go.Proofs.YtldlkbjbfgieeaaGreatDoor.Of
set_option linter.unusedVariables false
set_option linter.unusedSimpArgs false
open Go.RowKit Go.Proofs.YtldlkbjbfgieeaaGreatDoorW.PrintWords Go.Proofs.YtldlkbjbfgieeaaGreatDoorW.PrintLast Go.Proofs.YtldlkbjbfgieeaaGreatDoor.Mo Go.Proofs.YtldlkbjbfgieeaaGreatDoor.Q Go.Proofs.YtldlkbjbfgieeaaGreatDoor.Rw Go.Proofs.YtldlkbjbfgieeaaGreatDoor.Cb Go.Proofs.YtldlkbjbfgieeaaGreatDoor.Ch Go.Proofs.YtldlkbjbfgieeaaGreatDoor.Ft Go.Proofs.YtldlkbjbfgieeaaGreatDoor.Op
open Go.Proofs.YtldlkbjbfgieeaaGreatDoor.Lb (selS noTerm partsS cutS comma)
open Go.Proofs.YtldlkbjbfgieeaaGreatDoor.Nm
open Go.Proofs.YtldlkbjbfgieeaaGreatDoor.La (In64 raw pk_raw labels_right)
open Go.Proofs.YtldlkbjbfgieeaaGreatDoor.Ri (rightS rightO rightP goW goN rightW rightN Small labS labsGo inB)
open Go.IntWalk (wrap64_in)
set_option maxRecDepth 1000000
theorem pick12 {c : Int} (h : In64 c) (n : Nat) (hn : 0 < n) : billetlaw12_pick.f c (n : Int) = some ((raw c % n : Nat) : Int) := by
  rw [← pk_raw h n]
  unfold billetlaw12_pick.f pk
  by_cases hc : c < 0
  · rw [if_pos hc, if_neg (by omega), if_pos hc]
  · rw [if_neg hc, if_neg (by omega), if_neg hc, Int.tmod_eq_emod_of_nonneg (by omega)]
def okT (m : Nat) : Bool := match billetlaw04_Term.f (m : Int) with
  | some t => selS t && decide (t.size < 100)
  | none => false
theorem term_all : (List.range 256).all okT = true := by decide +kernel
theorem term_of {m : Nat} (h : m < 256) : ∃ t, billetlaw04_Term.f (m : Int) = some t ∧ selS t = true ∧ t.size < 100 := by
  have := List.all_eq_true.1 term_all m (List.mem_range.2 h)
  unfold okT at this
  revert this
  cases h : billetlaw04_Term.f (m : Int) with
  | none => intro h; cases h
  | some t =>
    intro h2
    simp only [Bool.and_eq_true, decide_eq_true_eq] at h2
    exact ⟨t, rfl, h2.1, h2.2⟩
abbrev nines : List ByteArray := [⟨#[97]⟩, ⟨#[98]⟩, ⟨#[99]⟩, ⟨#[100]⟩, ⟨#[101]⟩, ⟨#[102]⟩, ⟨#[103]⟩, ⟨#[104]⟩, ⟨#[105]⟩]
/-- one of nine names -/
def nine (i : Nat) : ByteArray := nines.getD i ByteArray.empty
theorem nine_all : ((List.range 9).all fun i => nm (nine i) && lt ByteArray.empty (nine i)) = true := by decide +kernel
theorem nine_of {i : Nat} (h : i < 9) : nm (nine i) = true ∧ lt ByteArray.empty (nine i) = true := by
  have := List.all_eq_true.1 nine_all i (List.mem_range.2 h)
  simpa using this
theorem name12 {c : Int} (h : In64 c) : billetlaw12_Name.f c = some (nine (raw c % 9)) := by
  have hp : billetlaw12_pick.f c 9 = some ((raw c % 9 : Nat) : Int) := pick12 h 9 (by decide)
  unfold billetlaw12_Name.f
  rw [Option.bind_some, hp, Option.bind_some, if_pos (by omega), if_pos (by show ((raw c % 9 : Nat) : Int) < 9; omega)]
  unfold rdOf nine
  rw [Int.toNat_natCast]
theorem at_in {l : List Int} (hl : ∀ x ∈ l, In64 x) (i : Int) (h0 : 0 ≤ i) : In64 (at_ l i) := by
  unfold at_
  by_cases h : i ≥ (l.length : Int)
  · rw [if_pos h]; exact ⟨by decide, by decide⟩
  · rw [if_neg h]
    unfold rd
    rw [List.getD_eq_getElem?_getD, List.getElem?_eq_getElem (by omega)]
    exact hl _ (List.getElem_mem _)
theorem inB_of {n low high : Int} (h1 : low ≤ n) (h2 : n ≤ high) : inB n low high = true := by
  unfold inB; rw [decide_eq_true h1, decide_eq_true h2]; rfl
theorem kOf_raw {rk : Int} (h : In64 rk) : kOf rk = ((1 + raw rk % 8 : Nat) : Int) := by
  show wrap64 (1 + pk rk 8) = _
  rw [show pk rk 8 = ((raw rk % 8 : Nat) : Int) from pk_raw h 8, wrap64_in _ (by omega)]
  omega
theorem sel_nil : selS ⟨#[]⟩ = true := by decide +kernel
theorem lab_nil : labS ⟨#[]⟩ = true := by decide +kernel
/-- Op's parts, and that they are right -/
theorem op_right {rk ri rw_ : Int} {l : List Int} (hk : In64 rk) (hi : In64 ri) (hw : In64 rw_) (hl : ∀ x ∈ l, In64 x) :
    ∃ T L kL, billetlaw12_Name.f ri = some (nine (raw ri % 9)) ∧ billetlaw04_Term.f (pk (at_ l 5) 256) = some T ∧ billetlaw04_Labels.f kL [at_ l 3, at_ l 2] = some L ∧ T.size < 100 ∧ L.size < 200 ∧
      rightO (kOf rk) (opX rk (nine (raw ri % 9)) l T) (opY rk (nine (raw ri % 9)) l L) (nine (raw ri % 9)) (pk rw_ 17) = true := by
  obtain ⟨T, hT, hsT, hzT⟩ := term_of (m := raw (at_ l 5) % 256) (by omega)
  rw [← show pk (at_ l 5) 256 = ((raw (at_ l 5) % 256 : Nat) : Int) from pk_raw (at_in hl 5 (by decide)) 256] at hT
  obtain ⟨kL, L, hL, hsL, hzL⟩ := labels_right (l := [at_ l 3, at_ l 2]) (fun x hx => by
    rcases List.mem_cons.1 hx with rfl | hx
    · exact at_in hl 3 (by decide)
    · rw [List.mem_singleton.1 hx]; exact at_in hl 2 (by decide)) (by simp)
  refine ⟨T, L, kL, name12 hi, hT, hL, hzT, by omega, ?_⟩
  obtain ⟨n1, n2⟩ := nine_of (i := raw ri % 9) (by omega)
  have hK := kOf_raw hk
  have p (i : Int) (h : 0 ≤ i) (n : Nat) : pk (at_ l i) (n : Int) = ((raw (at_ l i) % n : Nat) : Int) := pk_raw (at_in hl i h) n
  have p17 : pk rw_ 17 = ((raw rw_ % 17 : Nat) : Int) := pk_raw hw 17
  unfold rightO
  by_cases h1 : kOf rk = 1
  · rw [if_pos h1]
    have hx : opX rk (nine (raw ri % 9)) l T = { fitW l T with f0 := nine (raw ri % 9) } := if_pos h1
    rw [hx]
    have hs : selS (fitW l T).f5 = true := by
      show selS (if pk (at_ l 4) 3 = 2 then T else ⟨#[]⟩) = true
      by_cases h : pk (at_ l 4) 3 = 2
      · rw [if_pos h]; exact hsT
      · rw [if_neg h]; exact sel_nil
    have e1 : (fitW l T).f1 = ((raw (at_ l 0) % 9 : Nat) : Int) := p 0 (by decide) 9
    have e2 : (fitW l T).f2 = ((raw (at_ l 1) % 4 : Nat) : Int) := p 1 (by decide) 4
    have e3 : (fitW l T).f3 = wrap64 (1 + ((raw (at_ l 2) % 4 : Nat) : Int)) := by rw [← p 2 (by decide) 4]; rfl
    have e4 : (fitW l T).f4 = wrap64 (1 + ((raw (at_ l 3) % 8 : Nat) : Int)) := by rw [← p 3 (by decide) 8]; rfl
    rw [wrap64_in _ (by omega)] at e3 e4
    have hw : rightW { fitW l T with f0 := nine (raw ri % 9) } = true := by
      unfold rightW
      show (nm (nine (raw ri % 9)) && selS (fitW l T).f5 && inB (fitW l T).f1 0 16 && inB (fitW l T).f2 0 9 && inB (fitW l T).f3 1 16 && inB (fitW l T).f4 1 16) = true
      rw [n1, hs, e1, e2, e3, e4, inB_of (by omega) (by omega), inB_of (by omega) (by omega), inB_of (by omega) (by omega), inB_of (by omega) (by omega)]
      rfl
    unfold rightP goW goN
    rw [hw]
    show (true && true && (true && lt ByteArray.empty (nine (raw ri % 9)) && goW [] _) && true) = true
    rw [n2]
    rfl
  · rw [if_neg h1]
    by_cases h4 : kOf rk = 4
    · rw [if_pos h4]
      have hx : opY rk (nine (raw ri % 9)) l L = { fitN l L with f0 := nine (raw ri % 9) } := if_pos h4
      rw [hx]
      have hs : labS (fitN l L).f3 = true := by
        show labS (if pk (at_ l 2) 2 = 1 then L else ⟨#[]⟩) = true
        by_cases h : pk (at_ l 2) 2 = 1
        · rw [if_pos h]; exact hsL
        · rw [if_neg h]; exact lab_nil
      have e1 : (fitN l L).f1 = ((raw (at_ l 0) % 3 : Nat) : Int) := p 0 (by decide) 3
      have e2 : (fitN l L).f2 = ((raw (at_ l 1) % 5 : Nat) : Int) := p 1 (by decide) 5
      have hw : rightN { fitN l L with f0 := nine (raw ri % 9) } = true := by
        unfold rightN
        show (nm (nine (raw ri % 9)) && labS (fitN l L).f3 && inB (fitN l L).f1 0 2 && inB (fitN l L).f2 0 4) = true
        rw [n1, hs, e1, e2, inB_of (by omega) (by omega), inB_of (by omega) (by omega)]
        rfl
      unfold rightP goW goN
      rw [hw]
      show (true && true && true && (true && lt ByteArray.empty (nine (raw ri % 9)) && goN [] _)) = true
      rw [n2]
      rfl
    · rw [if_neg h4]
      by_cases h2 : kOf rk = 2
      · rw [if_pos h2, n1, p17, inB_of (by omega) (by omega)]; rfl
      rw [if_neg h2]
      by_cases h3 : kOf rk = 3
      · rw [if_pos h3]; exact n1
      rw [if_neg h3]
      by_cases h5 : kOf rk = 5
      · rw [if_pos h5]; exact n1
      rw [if_neg h5]
      by_cases h6 : kOf rk = 6
      · rw [if_pos h6]; exact n1
      rw [if_neg h6]
      by_cases h7 : kOf rk = 7
      · rw [if_pos h7]; exact n1
      rw [if_neg h7]
      exact decide_eq_true (by omega)
end Go.Proofs.YtldlkbjbfgieeaaGreatDoor.Of
