/- label.IsName by the library's contract of strings.Trim: a name is of 1 to 12 letters. -/
/- thin -/
import Derived.Test.YtldlkbjbfgieeaaGreatDoorProg
import Derived.Test.YtldlkbjbfgieeaaGreatDoorKh
import Derived.Shelf.Strings.SlTrimAscii
import Derived.WalkKit
namespace Go.Proofs.YtldlkbjbfgieeaaGreatDoor.Nm
set_option linter.unusedVariables false
set_option linter.unusedSimpArgs false
open Go.RowKit
/-- the letters of a name -/
def letters : List UInt8 := [97, 98, 99, 100, 101, 102, 103, 104, 105, 106, 107, 108, 109, 110, 111, 112, 113, 114, 115, 116, 117, 118, 119, 120, 121, 122, 48, 49, 50, 51, 52, 53, 54, 55, 56, 57]
/-- a name -/
def nm (s : ByteArray) : Bool := decide (1 ≤ s.size) && decide (s.size ≤ 12) && s.data.toList.all (letters.contains ·)
theorem dropWhile_nil (p : UInt8 → Bool) : ∀ l : List UInt8, l.dropWhile p = [] ↔ l.all p = true
 | [] => by simp
 | a :: l => by
   rw [List.dropWhile_cons, List.all_cons]
   cases h : p a with
   | true => simp [dropWhile_nil p l]
   | false => simp
theorem trim_nil (l : List UInt8) : Lib.trimS l letters = [] ↔ l.all (letters.contains ·) = true := by
 unfold Lib.trimS Lib.trimLeftS Lib.trimRightS
 rw [dropWhile_nil]
 constructor
 ·intro h
  rw [List.all_reverse] at h
  by_cases h2 : l.reverse.dropWhile (letters.contains ·) = []
  ·rw [dropWhile_nil, List.all_reverse] at h2; exact h2
  ·exfalso
   have h3 := List.head_dropWhile_not (letters.contains ·) h2
   have h4 := List.all_eq_true.1 h _ (List.head_mem h2)
   rw [h3] at h4; cases h4
 ·intro h
  have h2 : l.reverse.dropWhile (letters.contains ·) = [] := by rw [dropWhile_nil, List.all_reverse]; exact h
  rw [h2]; rfl
theorem trim_str (s : ByteArray) : (Lib.trimS s.data.toList letters).isEmpty = s.data.toList.all (letters.contains ·) := by
 rw [Bool.eq_iff_iff, List.isEmpty_iff]
 exact trim_nil s.data.toList
theorem emp (s : ByteArray) : (s.toList == ([] : List UInt8)) = decide (s.size = 0) := by
 rw [Bool.eq_iff_iff, beq_iff_eq, decide_eq_true_eq, ByteArray.toList_eq, Array.toList_eq_nil_iff, ← Array.size_eq_zero_iff]; rfl
theorem name_any (s : ByteArray) (w : World) :
 Calls Tryz.prog 68 #[.string s] w fun e w' => e = .returned (.bool (nm s)) ∧ Below w.heap.size w w' := by
 have HB := Below.refl w.heap.size w
 have hasc : ∀ (j : Nat) b, (⟨letters.toArray⟩ : ByteArray).data.toList[j]? = some b → b.toNat < 128 := by
  have := ascii_of_all (l := letters) (by decide +kernel)
  simpa using this
 have hl : (letters.toArray : Array UInt8) = #[97, 98, 99, 100, 101, 102, 103, 104, 105, 106, 107, 108, 109, 110, 111, 112, 113, 114, 115, 116, 117, 118, 119, 120, 121, 122, 48, 49, 50, 51, 52, 53, 54, 55, 56, 57] := rfl
 by_cases h0 : s.size = 0
 ·have d0 : (s.toList == ([] : List UInt8)) = true := by rw [emp]; exact decide_eq_true h0
  have e : nm s = false := by unfold nm; rw [decide_eq_false (show ¬ 1 ≤ s.size by omega)]; rfl
  have d1 : (s.toList != ([] : List UInt8)) = false := by rw [bne, d0]; rfl
  rw [e]
  go_enter Tryz.func68, Tryz.ntmps68
  go_wp2_with fail
  go_ret
  exact ⟨rfl, HB⟩
 ·have d0 : (s.toList == ([] : List UInt8)) = false := by rw [emp]; exact decide_eq_false h0
  have d1 : (s.toList != ([] : List UInt8)) = true := by rw [bne, d0]; rfl
  by_cases h1 : s.size ≤ 12
  ·have d2 : decide ((s.size : Int) ≤ 12) = true := decide_eq_true (by omega)
   have e : nm s = s.data.toList.all (letters.contains ·) := by unfold nm; rw [decide_eq_true (show 1 ≤ s.size by omega), decide_eq_true h1]; rfl
   rw [e, ← trim_str]
   have hT := Any.strings_Trim_laid Sh.Tryz.lays160 (by kernel_rfl) s ⟨letters.toArray⟩ w (by omega) (by decide) hasc
   go_enter Tryz.func68, Tryz.ntmps68
   go_wp2_with (go_at_call 91; refine hT.mono ?_; rintro e w2 ⟨rfl, hb⟩)
   go_ret
   exact ⟨by first | rfl | (simp; done) | rw [trim_str], hb⟩
  ·have d2 : decide ((s.size : Int) ≤ 12) = false := decide_eq_false (by omega)
   have e : nm s = false := by unfold nm; rw [decide_eq_true (show 1 ≤ s.size by omega), decide_eq_false h1]; rfl
   rw [e]
   go_enter Tryz.func68, Tryz.ntmps68
   go_wp2_with fail
   go_ret
   exact ⟨rfl, HB⟩
end Go.Proofs.YtldlkbjbfgieeaaGreatDoor.Nm
namespace Go.Proofs.YtldlkbjbfgieeaaGreatDoor.Gn
open Go.RowKit Go.Proofs.YtldlkbjbfgieeaaGreatDoor.Nm
def label_IsName.f (a0 : ByteArray) : Option (Bool) := some (nm a0)
theorem label_IsName.calls (a0 : ByteArray) (r : Bool) (w : World) (h : label_IsName.f a0 = some r) :
 Calls Tryz.prog 68 #[.string a0] w fun e w' => e = .returned (.bool r) ∧ Below w.heap.size w w' := by
 obtain rfl := Option.some.inj h
 exact name_any a0 w
end Go.Proofs.YtldlkbjbfgieeaaGreatDoor.Gn
