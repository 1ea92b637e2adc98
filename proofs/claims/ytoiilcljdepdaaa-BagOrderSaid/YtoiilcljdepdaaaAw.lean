/- The example of the chapter. -/
import Derived.Test.YtoiilcljdepdaaaTwo
namespace Go.Proofs.Ytoiilcljdepdaaa.Bg
set_option linter.unusedVariables false
set_option linter.unusedSimpArgs false
open Go.RowKit Go.Proofs.YtoiilcljdepdaaaW.PrintWords Go.Proofs.YtoiilcljdepdaaaW.PrintLast Go.Proofs.YtoiilcljdepdaaaW.PrintMore Go.Proofs.Ytoiilcljdepdaaa.PBagPlays
attribute [local go_sem] max2_int min2_int max_two min_two max_three min_three max_four min_four
theorem q0 : sent ([] : List ByteArray) ⟨#[97]⟩ = [(⟨#[97]⟩ : ByteArray)] := by decide +kernel
theorem q1 : sent [(⟨#[97]⟩ : ByteArray)] ⟨#[98]⟩ = [(⟨#[97]⟩ : ByteArray), (⟨#[98]⟩ : ByteArray)] := by decide +kernel
theorem q2 : sent [(⟨#[97]⟩ : ByteArray), (⟨#[98]⟩ : ByteArray)] ⟨#[99]⟩ = [(⟨#[97]⟩ : ByteArray), (⟨#[98]⟩ : ByteArray), (⟨#[99]⟩ : ByteArray)] := by decide +kernel
theorem q3 : lookS [(⟨#[97]⟩ : ByteArray), (⟨#[98]⟩ : ByteArray), (⟨#[99]⟩ : ByteArray)] 1 = ⟨#[98]⟩ := by decide +kernel
theorem q4 : lookB [(⟨#[97]⟩ : ByteArray), (⟨#[98]⟩ : ByteArray), (⟨#[99]⟩ : ByteArray)] 1 = true := by decide +kernel
theorem q5 : rmL [(⟨#[97]⟩ : ByteArray), (⟨#[98]⟩ : ByteArray), (⟨#[99]⟩ : ByteArray)] 1 = [(⟨#[97]⟩ : ByteArray), (⟨#[99]⟩ : ByteArray)] := by decide +kernel
theorem q6 : lookS [(⟨#[97]⟩ : ByteArray), (⟨#[99]⟩ : ByteArray)] 1 = ⟨#[99]⟩ := by decide +kernel
theorem q7 : lookB [(⟨#[97]⟩ : ByteArray), (⟨#[99]⟩ : ByteArray)] 1 = true := by decide +kernel
theorem q8 : cpB [(⟨#[97]⟩ : ByteArray), (⟨#[99]⟩ : ByteArray)] 0 = true := by decide +kernel
theorem q9 : cpL [(⟨#[97]⟩ : ByteArray), (⟨#[99]⟩ : ByteArray)] 0 = [(⟨#[97]⟩ : ByteArray), (⟨#[99]⟩ : ByteArray), (⟨#[97]⟩ : ByteArray)] := by decide +kernel
theorem q10 : lookB [(⟨#[97]⟩ : ByteArray), (⟨#[99]⟩ : ByteArray), (⟨#[97]⟩ : ByteArray)] 0 = true := by decide +kernel
theorem q11 : rmL [(⟨#[97]⟩ : ByteArray), (⟨#[99]⟩ : ByteArray), (⟨#[97]⟩ : ByteArray)] 0 = [(⟨#[99]⟩ : ByteArray), (⟨#[97]⟩ : ByteArray)] := by decide +kernel
theorem q12 : lookS [(⟨#[99]⟩ : ByteArray), (⟨#[97]⟩ : ByteArray)] 1 = ⟨#[97]⟩ := by decide +kernel
theorem q13 : lookB [(⟨#[99]⟩ : ByteArray), (⟨#[97]⟩ : ByteArray)] 1 = true := by decide +kernel
theorem q14 : lookS [(⟨#[99]⟩ : ByteArray), (⟨#[97]⟩ : ByteArray)] 2 = ⟨#[]⟩ := by decide +kernel
theorem q15 : lookB [(⟨#[99]⟩ : ByteArray), (⟨#[97]⟩ : ByteArray)] 2 = false := by decide +kernel
theorem q16 : rmL [(⟨#[99]⟩ : ByteArray), (⟨#[97]⟩ : ByteArray)] 2 = [(⟨#[99]⟩ : ByteArray), (⟨#[97]⟩ : ByteArray)] := by decide +kernel
set_option maxHeartbeats 8000000 in
theorem awake_any (w0 w : World) (hB : Below w0.heap.size w0 w) :
    Calls Try.prog 6 #[] w fun e w' => e = .returned (.bool true) ∧ Below w0.heap.size w0 w' := by
  go_enter Try.func6, Try.ntmps6
  go_wp2_with fail
  refine (New1 w0 _ hB).mono ?_; rintro e w1 ⟨g, rfl, HI, HB, -⟩
  replace HI := Aside0.mk HI
  go_wp2_with fail
  refine (Send1 g ([] : List ByteArray) ⟨#[97]⟩ w0 _ HI.out HB).mono ?_; rintro e w' ⟨rfl, hi, hb, -⟩; replace HI := Aside0.mk hi; replace HB := hb; clear hi hb; rw [q0] at HI
  go_wp2_with fail
  refine (Send1 g [(⟨#[97]⟩ : ByteArray)] ⟨#[98]⟩ w0 _ HI.out HB).mono ?_; rintro e w' ⟨rfl, hi, hb, -⟩; replace HI := Aside0.mk hi; replace HB := hb; clear hi hb; rw [q1] at HI
  go_wp2_with fail
  refine (Send1 g [(⟨#[97]⟩ : ByteArray), (⟨#[98]⟩ : ByteArray)] ⟨#[99]⟩ w0 _ HI.out HB).mono ?_; rintro e w' ⟨rfl, hi, hb, -⟩; replace HI := Aside0.mk hi; replace HB := hb; clear hi hb; rw [q2] at HI
  go_wp2_with fail
  refine (Take1 g [(⟨#[97]⟩ : ByteArray), (⟨#[98]⟩ : ByteArray), (⟨#[99]⟩ : ByteArray)] 1 w0 _ HI.out HB).mono ?_; rintro e w' ⟨rfl, hi, hb, -⟩; replace HI := Aside0.mk hi; replace HB := hb; clear hi hb; rw [q5] at HI; simp only [q3, q4]
  go_wp2_with fail
  refine (Look1 g [(⟨#[97]⟩ : ByteArray), (⟨#[99]⟩ : ByteArray)] 1 w0 _ HI.out HB).mono ?_; rintro e w' ⟨rfl, hi, hb, -⟩; replace HI := Aside0.mk hi; replace HB := hb; clear hi hb; simp only [q6, q7]
  go_wp2_with fail
  refine (Copy1 g [(⟨#[97]⟩ : ByteArray), (⟨#[99]⟩ : ByteArray)] 0 w0 _ HI.out HB).mono ?_; rintro e w' ⟨rfl, hi, hb, -⟩; replace HI := Aside0.mk hi; replace HB := hb; clear hi hb; rw [q9] at HI; simp only [q8]
  go_wp2_with fail
  refine (Drop1 g [(⟨#[97]⟩ : ByteArray), (⟨#[99]⟩ : ByteArray), (⟨#[97]⟩ : ByteArray)] 0 w0 _ HI.out HB).mono ?_; rintro e w' ⟨rfl, hi, hb, -⟩; replace HI := Aside0.mk hi; replace HB := hb; clear hi hb; rw [q11] at HI; simp only [q10]
  go_wp2_with fail
  refine (Look1 g [(⟨#[99]⟩ : ByteArray), (⟨#[97]⟩ : ByteArray)] 1 w0 _ HI.out HB).mono ?_; rintro e w' ⟨rfl, hi, hb, -⟩; replace HI := Aside0.mk hi; replace HB := hb; clear hi hb; simp only [q12, q13]
  go_wp2_with fail
  refine (Take1 g [(⟨#[99]⟩ : ByteArray), (⟨#[97]⟩ : ByteArray)] 2 w0 _ HI.out HB).mono ?_; rintro e w' ⟨rfl, hi, hb, -⟩; replace HI := Aside0.mk hi; replace HB := hb; clear hi hb; rw [q16] at HI; simp only [q14, q15]
  go_wp2_with fail
  refine (Len1 g _ w0 _ HI.out).mono ?_; rintro e w' ⟨rfl, rfl⟩
  simp only [List.length_cons, List.length_nil]
  go_wp2_with fail
  go_ret
  exact ⟨by first | rfl | decide +kernel, HB⟩
end Go.Proofs.Ytoiilcljdepdaaa.Bg
