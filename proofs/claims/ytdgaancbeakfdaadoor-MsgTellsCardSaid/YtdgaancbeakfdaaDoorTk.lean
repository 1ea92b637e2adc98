/- msg.take: numbers taken up into cells. -/
import Derived.Test.YtdgaancbeakfdaaDoorVrn
namespace Go.Proofs.YtdgaancbeakfdaaDoor.Tk
open Go.RowKit Go.Proofs.YtdgaancbeakfdaaDoorW.PrintWords Go.Proofs.YtdgaancbeakfdaaDoor.Num Go.Proofs.YtdgaancbeakfdaaDoor.Vrd Go.Proofs.YtdgaancbeakfdaaDoor.Giv Go.Proofs.YtdgaancbeakfdaaDoor.Q
set_option linter.unusedVariables false
set_option linter.unusedSimpArgs false
/-- pointers in a block -/
def PtrsAt (w : World) (a : Nat) (n : Nat) (tgt : Nat → Nat × Nat) : Prop := ∃ cs : Array Value, w.heap[a]? = some (.cells cs 63 (0, 0)) ∧ ∀ i, i < n → cs[i]? = some (.pointer (some ⟨(tgt i).1, (tgt i).2, none⟩))
set_option maxHeartbeats 4000000 in
theorem take_any (K n : Nat) (g a : Nat) (tgt : Nat → Nat × Nat) (vals : Nat → Int) (ats : Nat → Int) (bads : Nat → Bool) (s : ByteArray) (P : Nat → World → Prop) (w0 w : World)
    (hn : n ≤ 1000) (hI : IsS76 w0 w g s (ats 0) (bads 0)) (hB : Below w0.heap.size w0 w) (ha : PtrsAt w a n tgt)
    (hnum : ∀ i, i < n → varint_Reader_Num.f K s (ats i) (bads i) = some (vals i, s, ats (i + 1), bads (i + 1)))
    (hta : ∀ i, i < n → (tgt i).1 ≠ a ∧ (tgt i).1 ≠ g ∧ w0.heap.size ≤ (tgt i).1) (h0 : P 0 w)
    (hcell : ∀ i w1, i < n → P i w1 → (∃ v, w1.cell? ⟨(tgt i).1, (tgt i).2, none⟩ = some v) ∧ w1.frozen? ⟨(tgt i).1, (tgt i).2, none⟩ = false)
    (hkeep : ∀ i w1 w2 a b, i < n → IsS76 w0 w1 g s a b → P i w1 → KeepBut w1 w2 g none → P i w2)
    (hset : ∀ i w1, i < n → P i w1 → P (i + 1) (w1.setCell ⟨(tgt i).1, (tgt i).2, none⟩ (.int .i64 (vals i)))) :
    Calls Tryd.prog 30 #[.pointer (some ⟨g, 0, none⟩), .slice (some ⟨a, 0, none⟩) n n] w fun e w' => e = .returned (.tuple #[]) ∧ IsS76 w0 w' g s (ats n) (bads n) ∧ Below w0.heap.size w0 w' ∧ P n w' := by
  have hag : a ≠ g := by
    obtain ⟨cs, hc, _⟩ := ha
    intro e
    exact hI.ne_blk hc (by decide) e.symm
  replace hI := Aside0.mk hI
  replace hB := Aside0.mk hB
  replace ha := Aside0.mk ha
  replace hnum := Aside0.mk hnum
  replace hta := Aside0.mk hta
  replace h0 := Aside0.mk h0
  replace hcell := Aside0.mk hcell
  replace hkeep := Aside0.mk hkeep
  replace hset := Aside0.mk hset
  go_enter Tryd.func30, Tryd.ntmps30
  go_wp2_with fail
  go_loopg [8] n (fun kq v8 w' => ∃ i : Nat, v8 = .int .i64 (i : Int) ∧ i + kq = n ∧ Aside0 (IsS76 w0 w' g s (ats i) (bads i)) ∧ Aside0 (Below w0.heap.size w0 w') ∧ Aside0 (PtrsAt w' a n tgt) ∧ Aside0 (P i w'))
  case atStart => exact ⟨0, rfl, by omega, hI, hB, ha, h0⟩
  case round =>
    clear hI hB ha h0
    obtain ⟨i, rfl, hik, hI, hB, ha, hP⟩ := hrel
    by_cases h1 : i < n
    · obtain ⟨m, rfl⟩ : ∃ m, gk = m + 1 := ⟨gk - 1, by omega⟩
      have d1 : decide ((i : Int) < (n : Int)) = true := by simp; exact h1
      have p1 : 0 ≤ (i : Int) := by omega
      have q1 : (i : Int) < (n : Int) := by omega
      have e1 : (i : Int).toNat = i := Int.toNat_natCast i
      have b1 : (i : Int) ≤ 1000 := by omega
      obtain ⟨t1, t2, t3⟩ := hta.out i h1
      have hN := hnum.out i h1
      have hcl := fun w1 => hcell.out i w1 h1
      have hst := fun w1 => hset.out i w1 h1
      obtain ⟨cs, hc, hcs⟩ := ha.out
      have hp := (blk_cell hc i).trans (hcs i h1)
      generalize hv : vals i = vi at *
      generalize hai : ats i = ai at *
      generalize hbi : bads i = bi at *
      generalize (tgt i).1 = tb at *
      generalize (tgt i).2 = tf at *
      replace hN := Aside0.mk hN
      replace hcl := Aside0.mk hcl
      replace hst := Aside0.mk hst
      replace hcs := Aside0.mk hcs
      replace p1 := eq_true p1
      replace q1 := eq_true q1
      go_wp2_with fail
      refine (varint_Reader_Num.calls K g s ai bi vi s (ats (i + 1)) (bads (i + 1)) w0 wr hI.out hB.out hN.out).mono ?_; rintro ee w5 ⟨rfl, hI5, hB5, hk5⟩
      have hc5 := (hk5.2 a (blk_lt hc) hag (by simp)).trans hc
      have hP5 := hkeep.out i _ _ _ _ h1 hI.out hP.out hk5
      obtain ⟨⟨v, hcv⟩, hfr⟩ := hcl.out w5 hP5
      have hP6 := hst.out w5 hP5
      have hI6 := hI5.far (p := ⟨tb, tf, none⟩) (Ne.symm t2) (.int .i64 vi)
      have hB6 := hB5.setCell (p := ⟨tb, tf, none⟩) t3 (.int .i64 vi)
      have hc6 := blk_far (p := ⟨tb, tf, none⟩) hc5 (Ne.symm t1) (.int .i64 vi)
      clear hp hI hB ha hP hc hk5 hI5 hB5 hc5 hP5
      go_wp2_with fail
      go_roundg m
      case measure => omega
      case rel => exact ⟨i + 1, by rw [Int.natCast_add]; rfl, by omega, Aside0.mk hI6, Aside0.mk hB6, Aside0.mk ⟨cs, hc6, hcs.out⟩, Aside0.mk hP6⟩
    · have d1 : decide ((i : Int) < (n : Int)) = false := by simp; omega
      obtain rfl : i = n := by omega
      go_wp2_with fail
      go_end0
      exact ⟨rfl, hI.out, hB.out, hP.out⟩
/-- one number taken up -/
theorem take_one (K : Nat) (g a q f : Nat) (v at0 at1 : Int) (b0 b1 : Bool) (s : ByteArray) (P0 P1 : World → Prop) (w0 w : World)
    (hI : IsS76 w0 w g s at0 b0) (hB : Below w0.heap.size w0 w) (ha : w.heap[a]? = some (.cells #[.pointer (some ⟨q, f, none⟩)] 63 (0, 0)))
    (hnum : varint_Reader_Num.f K s at0 b0 = some (v, s, at1, b1)) (hqa : q ≠ a) (hqg : q ≠ g) (hwq : w0.heap.size ≤ q) (h0 : P0 w)
    (hcell : ∀ w1, P0 w1 → (∃ v, w1.cell? ⟨q, f, none⟩ = some v) ∧ w1.frozen? ⟨q, f, none⟩ = false)
    (hkeep : ∀ w1 w2 a b, IsS76 w0 w1 g s a b → P0 w1 → KeepBut w1 w2 g none → P0 w2)
    (hset : ∀ w1, P0 w1 → P1 (w1.setCell ⟨q, f, none⟩ (.int .i64 v))) :
    Calls Tryd.prog 30 #[.pointer (some ⟨g, 0, none⟩), .slice (some ⟨a, 0, none⟩) 1 1] w fun e w' => e = .returned (.tuple #[]) ∧ IsS76 w0 w' g s at1 b1 ∧ Below w0.heap.size w0 w' ∧ P1 w' := by
  have z : ∀ i, i < 1 → i = 0 := fun i hi => by omega
  refine take_any K 1 g a (fun _ => (q, f)) (fun _ => v) (fun i => if i = 0 then at0 else at1) (fun i => if i = 0 then b0 else b1) s (fun i W => if i = 0 then P0 W else P1 W) w0 w (by decide) hI hB ⟨_, ha, ?_⟩ ?_ ?_ h0 ?_ ?_ ?_
  · intro i hi; cases z i hi; rfl
  · intro i hi; cases z i hi; exact hnum
  · intro i hi; exact ⟨hqa, hqg, hwq⟩
  · intro i w1 hi h; cases z i hi; exact hcell w1 h
  · intro i w1 w2 a b hi hI h hk; cases z i hi; exact hkeep w1 w2 a b hI h hk
  · intro i w1 hi h; cases z i hi; exact hset w1 h
end Go.Proofs.YtdgaancbeakfdaaDoor.Tk
