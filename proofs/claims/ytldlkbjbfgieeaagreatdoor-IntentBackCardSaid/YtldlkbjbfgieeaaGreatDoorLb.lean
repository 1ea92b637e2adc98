/- label's texts: parts between commas, a text cut at an equals sign. -/
/- thin -/
import Derived.Test.YtldlkbjbfgieeaaGreatDoorKq
import Derived.Test.YtldlkbjbfgieeaaGreatDoorKh
import Derived.Test.YtldlkbjbfgieeaaGreatDoorNm
import Derived.Shelf.Strings.SplitCore
import Derived.Lib.Hide
import Derived.RegionTactic
namespace Go.Proofs.YtldlkbjbfgieeaaGreatDoor.Lb
set_option linter.unusedVariables false
set_option linter.unusedSimpArgs false
open Go.RowKit Go.Proofs.YtldlkbjbfgieeaaGreatDoorW.PrintWords Go.Proofs.YtldlkbjbfgieeaaGreatDoorW.PrintLast Mo Q Go.Proofs.YtldlkbjbfgieeaaGreatDoor.Nm
abbrev comma : ByteArray := ⟨#[44]⟩
abbrev equals : ByteArray := ⟨#[61]⟩
theorem ix_range : ∀ (l : List UInt8) (c : UInt8), Lib.indexByte l c = -1 ∨ (0 ≤ Lib.indexByte l c ∧ Lib.indexByte l c < l.length)
 | [], _ => .inl rfl
 | b :: l, c => by
   unfold Lib.indexByte
   by_cases h : (b == c) = true
   ·rw [if_pos h]; right; simp
   ·rw [if_neg h]
    rcases ix_range l c with h1 | ⟨h1, h2⟩
    ·rw [h1]; left; rfl
    ·have h3 : ¬ (Lib.indexByte l c == -1) = true := by simp; omega
     rw [if_neg h3]; right; simp; omega
theorem index_one (x : ByteArray) (c : UInt8) : Lib.indexB x ⟨#[c]⟩ = Lib.indexByte x.data.toList c := by
 unfold Lib.indexB
 exact Lib.index_one _ _
theorem split_any (s : ByteArray) (w : World) (hs : s.size < 4294967281) :
 Calls Tryz.prog 135 #[.string s, .string comma] w fun e w' =>
  e = .returned (.slice (some ⟨w.heap.size, 0, none⟩) (Lib.countB s comma + 1) (Lib.countB s comma + 1)) ∧ w.alloc (.cells ((Lib.splitB comma 0 (Lib.countB s comma) s).map Value.string).toArray 9) = w' := by
 have hlen := Lib.splitB_all comma (by decide) 0 _ s rfl
 have c := Any.strings_genSplit_core Sh.Tryz.lays221 (by kernel_rfl) s comma 0 (-1) (Lib.countB s comma + 1) w hs (by decide) (Nat.zero_le _)
  (fun x c hx => (Sh.Tryz.strings_Index_one x 44 _).mono fun e w' ⟨he, hw⟩ => ⟨he.trans (by rw [index_one]), hw⟩)
  ((Sh.Tryz.strings_Count_one s 44 w).mono fun e w' ⟨he, hw⟩ => ⟨he.trans (by rw [show Lib.countB s comma = Lib.count s.data.toList [44] from rfl, Lib.count_one]; rfl), hw⟩)
  (by decide) (by decide) (by rw [if_pos (by decide)]; have := Lib.countB_le comma (by decide) s.size s (Nat.le_refl _); omega)
 rw [Nat.add_sub_cancel, hlen] at c
 have e2 : Lib.cellsOf (Lib.splitB comma 0 (Lib.countB s comma) s) (Lib.countB s comma + 1) = ((Lib.splitB comma 0 (Lib.countB s comma) s).map Value.string).toArray := by rw [← hlen]; exact Lib.cellsOf_full _
 rw [e2] at c
 go_enter Tryz.func135, Tryz.ntmps135
 go_wp2_with fail
 refine c.mono ?_; rintro e w' ⟨rfl, rfl⟩
 go_wp2_with fail
 go_ret
 exact ⟨rfl, rfl⟩
/-- what stands between commas; of nothing none -/
def partsS (s : ByteArray) : List ByteArray := if s.size = 0 then [] else Lib.splitB comma 0 (Lib.countB s comma) s
theorem parts_any (s : ByteArray) (w : World) (hs : s.size < 4294967281) :
 Calls Tryz.prog 120 #[.string s] w fun e w' => ∃ v, e = .returned v ∧ Kd.string.R 9 w' w.heap.size (fun _ => True) v (partsS s) ∧ Below w.heap.size w w' := by
 by_cases h0 : s.size = 0
 ·have d0 : (s.toList == ([] : List UInt8)) = true := by rw [emp]; exact decide_eq_true h0
  have e : partsS s = [] := if_pos h0
  rw [e]
  go_enter Tryz.func120, Tryz.ntmps120
  go_wp2_with fail
  go_ret
  exact ⟨_, rfl, Kd.R_nil _ _ _ _ _, Below.refl _ _⟩
 ·have d0 : (s.toList == ([] : List UInt8)) = false := by rw [emp]; exact decide_eq_false h0
  have e : partsS s = Lib.splitB comma 0 (Lib.countB s comma) s := if_neg h0
  have hlen := Lib.splitB_all comma (by decide) 0 _ s rfl
  have hle := Lib.countB_le comma (by decide) s.size s (Nat.le_refl _)
  have hs1 := split_any s w hs
  rw [e]
  generalize Lib.splitB comma 0 (Lib.countB s comma) s = L at *
  generalize Lib.countB s comma = n at *
  have HB := below_alloc (Below.refl w.heap.size w) (.cells (L.map Value.string).toArray 9)
  have HR : Kd.string.R 9 (w.alloc (.cells (L.map Value.string).toArray 9)) w.heap.size (fun _ => True) (.slice (some ⟨w.heap.size, 0, none⟩) (n + 1) (n + 1)) L := by
   refine Kd.R_of_own ⟨?_, .inr ⟨w.heap.size, n + 1, _, by rw [hlen], Nat.le_refl _, blk_new w _, by rw [hlen]; exact Nat.le_refl _, by unfold maxLen; omega, ?_, ?_⟩⟩ (fun _ _ => trivial)
   ·rw [encs_length, Nat.mul_one]
   ·rw [List.size_toArray, List.length_map, hlen, Nat.mul_one]
   ·rw [hlen, Nat.mul_one]
    exact List.take_of_length_le (by rw [List.length_map]; omega)
  have HR' := Lib.hid HR
  clear e hlen HR
  go_enter Tryz.func120, Tryz.ntmps120
  go_wp2_with fail
  refine hs1.mono ?_; rintro e w' ⟨rfl, rfl⟩
  go_wp2_with fail
  go_ret
  exact ⟨_, rfl, HR'.out, HB⟩
/-- a text at its first equals sign; whether there is one -/
def cutS (s : ByteArray) : ByteArray × ByteArray × Bool :=
 if Lib.indexByte s.data.toList 61 = -1 then (s, ByteArray.empty, false) else (s.extract 0 (Lib.indexByte s.data.toList 61).toNat, s.extract ((Lib.indexByte s.data.toList 61).toNat + 1) s.size, true)
set_option maxHeartbeats 2000000 in
theorem lite_any (s : ByteArray) (w : World) (hs : s.size ≤ 9223372036854775000) :
 Calls Tryz.prog 139 #[.string s, .string equals] w fun e w' => e = .returned (.tuple #[.string (cutS s).1, .string (cutS s).2.1, .bool (cutS s).2.2]) ∧ ∃ n, w' = w.drewN n := by
 have hI := Sh.Tryz.stringslite_Index_one s 61 w
 have hr := ix_range s.data.toList 61
 rw [Array.length_toList] at hr
 have hsz : s.data.size = s.size := rfl
 rw [hsz] at hr
 unfold cutS
 generalize Lib.indexByte s.data.toList 61 = i at *
 rcases hr with rfl | ⟨h1, h2⟩
 ·rw [if_pos rfl]
  go_enter Tryz.func139, Tryz.ntmps139
  go_wp2_with fail
  refine hI.mono ?_; rintro e w' ⟨rfl, rfl⟩
  go_wp2_with fail
  go_ret3
  exact ⟨rfl, 0, rfl⟩
 ·obtain ⟨j, rfl⟩ : ∃ j : Nat, i = (j : Int) := ⟨i.toNat, by omega⟩
  rw [if_neg (by omega)]
  have c1 : (0 : Int) ≤ (j : Int) := by omega
  have c2 : (j : Int) ≤ (s.size : Int) := by omega
  have c3 : (0 : Int) ≤ (j : Int) + 1 := by omega
  have c4 : (j : Int) + 1 ≤ (s.size : Int) := by omega
  have c5 : ((j : Int) + 1).toNat = j + 1 := by omega
  have c6 : IntKind.i64.wrap ((j : Int) + 1) = (j : Int) + 1 := by rw [IntKind.wrap_i64]; omega
  go_enter Tryz.func139, Tryz.ntmps139
  go_wp2_with fail
  refine hI.mono ?_; rintro e w' ⟨rfl, rfl⟩
  go_wp2_with fail
  go_region
  go_wp2_with fail
  go_ret3
  exact ⟨rfl, 1, rfl⟩
theorem cut_any (s : ByteArray) (w : World) (hs : s.size ≤ 9223372036854775000) :
 Calls Tryz.prog 124 #[.string s, .string equals] w fun e w' => e = .returned (.tuple #[.string (cutS s).1, .string (cutS s).2.1, .bool (cutS s).2.2]) ∧ Below w.heap.size w w' := by
 have hI := lite_any s w hs
 go_enter Tryz.func124, Tryz.ntmps124
 go_wp2_with fail
 refine hI.mono ?_; rintro e w' ⟨rfl, n, rfl⟩
 go_wp2_with fail
 go_ret3
 exact ⟨rfl, pw_below_drewN (Below.refl _ _) n⟩
/-! in the print's own form -/
def label_parts.f (a0 : ByteArray) : Option (List ByteArray) := if a0.size < 4294967281 then some (partsS a0) else none
theorem label_parts.calls (a0 : ByteArray) (r : List ByteArray) (w : World) (h : label_parts.f a0 = some r) :
 Calls Tryz.prog 120 #[.string a0] w fun e w' => ∃ v0_ : Value, e = .returned v0_ ∧ Kd.string.R 9 w' w.heap.size (fun _ => True) v0_ r ∧ Below w.heap.size w w' := by
 unfold label_parts.f at h
 split at h
 ·obtain rfl := Option.some.inj h
  exact parts_any a0 w (by assumption)
 ·cases h
def strings_Cut.f (a0 a1 : ByteArray) : Option (ByteArray × ByteArray × Bool) := if a1.toList = [61] ∧ a0.size < 4294967281 then some (cutS a0) else none
theorem strings_Cut.calls (a0 a1 : ByteArray) (r1 r2 : ByteArray) (r3 : Bool) (w : World) (h : strings_Cut.f a0 a1 = some (r1, r2, r3)) :
 Calls Tryz.prog 124 #[.string a0, .string a1] w fun e w' => e = .returned (.tuple #[.string r1, .string r2, .bool r3]) ∧ Below w.heap.size w w' := by
 unfold strings_Cut.f at h
 split at h
 ·rename_i hh
  have e := Option.some.inj h
  have e1 : a1 = equals := by
   obtain ⟨x⟩ := a1
   have := hh.1
   rw [ByteArray.toList_eq] at this
   exact congrArg ByteArray.mk (Array.toList_inj.1 this)
  subst e1
  have hc := cut_any a0 w (by omega)
  rw [e] at hc
  exact hc
 ·cases h
end Go.Proofs.YtldlkbjbfgieeaaGreatDoor.Lb
