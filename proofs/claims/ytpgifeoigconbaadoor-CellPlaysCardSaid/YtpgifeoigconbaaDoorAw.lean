/- A cell: chapter 18's example. -/
import Derived.Test.YtpgifeoigconbaaDoorWr
namespace Go.Proofs.YtpgifeoigconbaaDoor.Cl
set_option linter.unusedVariables false
set_option linter.unusedSimpArgs false
open Go.RowKit Go.Proofs.YtpgifeoigconbaaDoorW.PrintWords Go.Proofs.YtpgifeoigconbaaDoorW.PrintLast Go.Proofs.YtpgifeoigconbaaDoor.Mo Go.Proofs.YtpgifeoigconbaaDoor.Q Go.Proofs.YtpgifeoigconbaaDoor.Rt
attribute [local go_sem] max2_int min2_int max_two min_two max_three min_three max_four min_four
def bnd1 : S35 := ⟨⟨#[97]⟩, ⟨#[110]⟩, 2⟩
theorem row1 {w : World} {a : Nat} (h : w.heap[a]? = some (.cells #[.string ⟨#[97]⟩, .string ⟨#[110]⟩, .int .i64 2] 35 (0, 0))) : Kd.C k35 w (some ⟨a, 0, none⟩) [bnd1].length [bnd1] := by
  refine ⟨rfl, by decide, fun _ => ⟨⟨a, 0, none⟩, rfl, fun j p hj => ?_⟩⟩
  obtain rfl : j = 0 := by
    have := (List.getElem?_eq_some_iff.1 hj).1
    simp at this; omega
  obtain rfl : p = bnd1 := by simpa using hj.symm
  refine ⟨_, rfl, k35_mk w bnd1, ?_⟩
  intro i u hi
  rw [show (⟨a, 0, none⟩ : Addr).add (0 * k35.sz + i) = ⟨a, i, none⟩ from by rw [add_at]; congr 1; omega]
  rcases (show i = 0 ∨ i = 1 ∨ i = 2 ∨ 3 ≤ i from by omega) with h0 | h0 | h0 | h0
  · subst h0; exact ((blk_cell h 0).trans rfl).trans hi
  · subst h0; exact ((blk_cell h 1).trans rfl).trans hi
  · subst h0; exact ((blk_cell h 2).trans rfl).trans hi
  · rw [List.getElem?_eq_none (by simpa using h0)] at hi; cases hi
theorem tk1 : takesS 1 1 0 0 1 1 1 2 1 20 [bnd1] = true := by decide +kernel
theorem tk2 : takesS 1 1 2 1 1 1 1 2 1 20 [bnd1] = false := by decide +kernel
theorem tk3 : takesS 1 1 2 1 1 1 0 3 0 0 [] = true := by decide +kernel
theorem tk4 : takesS 1 1 3 0 1 1 1 2 9 20 [bnd1] = false := by decide +kernel
theorem ru1 : runS 19 20 [bnd1] = [bnd1] := by rfl
theorem ru2 : runS 20 20 [bnd1] = [] := by rfl
set_option maxHeartbeats 4000000 in
theorem awake_any (w0 w : World) (HB : Below w0.heap.size w0 w) : Calls Tryd.prog 8 #[] w fun ee w' => ee = .returned (.bool true) ∧ Below w0.heap.size w0 w' := by
  suffices hh : Calls Tryd.prog 8 #[] w fun ee w' => ee = .returned (.bool true) ∧ Below w.heap.size w w' from hh.mono (fun _ _ h => ⟨h.1, HB.trans (h.2.mono HB.size)⟩)
  go_enter Tryd.func8, Tryd.ntmps8
  go_wp2_with fail
  refine (made_any (ok := fun _ => True) 1 1 w w (Below.refl _ _)).mono ?_; rintro ee w1 ⟨g, rfl, HC, HB1, -, hg⟩
  go_wp2_with fail
  have hs1 := HB1.size
  have HA0 := below_alloc (below_alloc (Below.refl w1.heap.size w1) (.cells #[.string ⟨#[97]⟩, .string ⟨#[110]⟩, .int .i64 2] 35)) (.cells #[.int .i64 1, .int .i64 1, .int .i64 1, .int .i64 2, .int .i64 1, .int .i64 20, .slice (some ⟨w1.heap.size, 0, none⟩) 1 1] 31)
  have hA : ((w1.alloc (.cells #[.string ⟨#[97]⟩, .string ⟨#[110]⟩, .int .i64 2] 35)).alloc (.cells #[.int .i64 1, .int .i64 1, .int .i64 1, .int .i64 2, .int .i64 1, .int .i64 20, .slice (some ⟨w1.heap.size, 0, none⟩) 1 1] 31)).heap[w1.heap.size]? = _ := blk_alloc (blk_new w1 _) _
  have hM : ((w1.alloc (.cells #[.string ⟨#[97]⟩, .string ⟨#[110]⟩, .int .i64 2] 35)).alloc (.cells #[.int .i64 1, .int .i64 1, .int .i64 1, .int .i64 2, .int .i64 1, .int .i64 20, .slice (some ⟨w1.heap.size, 0, none⟩) 1 1] 31)).heap[w1.heap.size + 1]? = some (.cells #[.int .i64 1, .int .i64 1, .int .i64 1, .int .i64 2, .int .i64 1, .int .i64 20, .slice (some ⟨w1.heap.size, 0, none⟩) 1 1] 31 (0, 0)) := by have := blk_new (w1.alloc (.cells #[.string ⟨#[97]⟩, .string ⟨#[110]⟩, .int .i64 2] 35)) (.cells #[.int .i64 1, .int .i64 1, .int .i64 1, .int .i64 2, .int .i64 1, .int .i64 20, .slice (some ⟨w1.heap.size, 0, none⟩) 1 1] 31); simpa using this
  revert HA0 hA hM
  generalize ((w1.alloc (.cells #[.string ⟨#[97]⟩, .string ⟨#[110]⟩, .int .i64 2] 35)).alloc (.cells #[.int .i64 1, .int .i64 1, .int .i64 1, .int .i64 2, .int .i64 1, .int .i64 20, .slice (some ⟨w1.heap.size, 0, none⟩) 1 1] 31)) = wa
  generalize hgm : w1.heap.size + 1 = m
  generalize hga : w1.heap.size = a at *
  intro HA0 hA hM
  rw [← hga] at HA0
  replace HC := HC.below HA0
  replace HB1 := HB1.trans (HA0.mono HB1.size)
  clear HA0
  have ha : a ≠ g := HC.ne hA (by decide)
  have ham : a ≠ m := by omega
  have hm : m ≠ g := HC.ne hM (by decide)
  have hwa : w.heap.size ≤ m := by omega
  clear hgm hga hg
  refine (recv_yes g 1 1 0 0 0 [] 1 1 1 2 1 20 (some ⟨a, 0, none⟩) 1 [bnd1] w wa HC HB1 (row1 hA) (Nat.le_refl _) (by decide) tk1 (fun _ _ => trivial)).mono ?_; rintro ee w2 ⟨rfl, HC2, HB2, hk2⟩
  have hA2 := keep_blk hk2 hA ha
  have hM2 := keep_blk hk2 hM hm
  clear hA hM HC HB1 hk2
  have m0 := (blk_cell hM2 0).trans rfl
  have m1 := (blk_cell hM2 1).trans rfl
  have m2 := (blk_cell hM2 2).trans rfl
  have m3 := (blk_cell hM2 3).trans rfl
  have m4 := (blk_cell hM2 4).trans rfl
  have m5 := (blk_cell hM2 5).trans rfl
  have m6 := (blk_cell hM2 6).trans rfl
  go_wp2_with fail
  clear m0 m1 m2 m3 m4 m5 m6
  refine (recv_no g 1 1 2 1 20 [bnd1] 1 1 1 2 1 20 (some ⟨a, 0, none⟩) 1 [bnd1] w w2 HC2 HB2 (row1 hA2) (Nat.le_refl _) (by decide) tk2 (fun _ _ => trivial)).mono ?_; rintro ee w3 ⟨rfl, HC3, HB3, hk3⟩
  have hA3 := keep_blk hk3 hA2 ha
  have hM3 := keep_blk hk3 hM2 hm
  clear hA2 hM2 HC2 HB2 hk3
  go_wp2_with fail
  refine (recv_yes g 1 1 2 1 20 [bnd1] 1 1 0 3 0 0 none 0 [] w w3 HC3 HB3 (Kd.C_nil _ _) (Nat.le_refl _) (by decide) tk3 (fun _ _ => trivial)).mono ?_; rintro ee w4 ⟨rfl, HC4, HB4, hk4⟩
  have hA4 := keep_blk hk4 hA3 ha
  have hM4 := keep_blk hk4 hM3 hm
  clear hA3 hM3 HC3 HB3 hk4
  go_wp2_with fail
  refine (rep_any g 1 1 3 0 20 [bnd1] w w4 HC4 (by decide)).mono ?_; rintro ee w5 ⟨R, rfl, hR, hb5⟩
  have hA5 := blk_below hA4 hb5
  have hM5 := blk_below hM4 hb5
  have HC5 := HC4.below hb5
  have HB5 := HB4.trans (hb5.mono HB4.size)
  have HB4s := HB4.size
  clear hA4 hM4 HC4 HB4 hb5
  have m0 := (blk_cell hM5 0).trans rfl
  have m1 := (blk_cell hM5 1).trans rfl
  have m2 := (blk_cell hM5 2).trans rfl
  have m3 := (blk_cell hM5 3).trans rfl
  have m4 := (blk_cell hM5 4).trans rfl
  have m5 := (blk_cell hM5 5).trans rfl
  have m6 := (blk_cell hM5 6).trans rfl
  have f4 := blk_frozen hM5 4
  have hml := blk_lt hM5
  go_wp2_with fail
  have hR5 : Row w w5 R [bnd1] := Made.row hR HB4s
  have hA6' := blk_far (p := ⟨m, 4, none⟩) hA5 ham (.int .i64 9)
  have HC6' := HC5.set (k := 4) hM5 (by decide) (by decide) (.int .i64 9)
  have hR6' := hR5.set hM5 (by decide) 4 (.int .i64 9)
  have HB6' := HB5.setCell (p := ⟨m, 4, none⟩) hwa (.int .i64 9)
  have hM6' := blk_put hM5 4 (.int .i64 9) rfl
  revert hA6' HC6' hR6' HB6' hM6'
  generalize w5.setCell ⟨m, 4, none⟩ (.int .i64 9) = wy
  intro hA6' HC6' hR6' HB6' hM6'
  have HA6 := below_alloc (Below.refl wy.heap.size wy) (.cells #[.int .i64 2, .int .i64 1, .int .i64 1, .int .i64 3, .int .i64 0, .int .i64 20, .slice R 1 1] 31)
  have hA6 := blk_below hA6' HA6
  have HC6 := HC6'.below HA6
  have hR6 := hR6'.below HA6
  have HB6 := HB6'.trans (HA6.mono HB6'.size)
  have hM6 := blk_below hM6' HA6
  revert hA6 HC6 hR6 HB6 hM6
  generalize wy.alloc (.cells #[.int .i64 2, .int .i64 1, .int .i64 1, .int .i64 3, .int .i64 0, .int .i64 20, .slice R 1 1] 31) = w6
  intro hA6 HC6 hR6 HB6 hM6
  clear m0 m1 m2 m3 m4 m5 m6 f4 hml hM6' HA6 hR5 hR hA5 hM5 HC5 HB5 hA6' HC6' hR6' HB6'
  refine (msame_any 2 1 1 3 0 20 R (some ⟨a, 0, none⟩) 1 1 [bnd1] w6 hR6.C (Nat.le_refl _) (row1 hA6) (Nat.le_refl _) (by decide)).mono ?_; rintro ee w7 ⟨rfl, hb7⟩
  have hA7 := blk_below hA6 hb7
  have hM7 := blk_below hM6 hb7
  have HC7 := HC6.below hb7
  have HB7 := HB6.trans (hb7.mono HB6.size)
  clear hA6 hM6 HC6 HB6 hb7 hR6
  have m0 := (blk_cell hM7 0).trans rfl
  have m1 := (blk_cell hM7 1).trans rfl
  have m2 := (blk_cell hM7 2).trans rfl
  have m3 := (blk_cell hM7 3).trans rfl
  have m4 := (blk_cell hM7 4).trans rfl
  have m5 := (blk_cell hM7 5).trans rfl
  have m6 := (blk_cell hM7 6).trans rfl
  go_wp2_with fail
  clear m0 m1 m2 m3 m4 m5 m6
  refine (recv_no g 1 1 3 0 20 [bnd1] 1 1 1 2 9 20 (some ⟨a, 0, none⟩) 1 [bnd1] w w7 HC7 HB7 (row1 hA7) (Nat.le_refl _) (by decide) tk4 (fun _ _ => trivial)).mono ?_; rintro ee w8 ⟨rfl, HC8, HB8, hk8⟩
  have hA8 := keep_blk hk8 hA7 ha
  clear hA7 hM7 HC7 HB7 hk8
  go_wp2_with fail
  refine (run_any g 1 1 3 0 20 19 [bnd1] w w8 HC8 (by decide)).mono ?_; rintro ee w9 ⟨R9, c9, rfl, hc9, hR9, hb9⟩
  have hA9 := blk_below hA8 hb9
  have HC9 := HC8.below hb9
  have HB9 := HB8.trans (hb9.mono HB8.size)
  have hR9' := (Made.row (w0 := w) hR9 HB8.size).C
  clear hA8 HC8 HB8 hb9 hR9
  rw [ru1] at hc9 hR9' ⊢
  go_wp2_with fail
  refine (lsame_any R9 (some ⟨a, 0, none⟩) c9 1 [bnd1] w9 hR9' hc9 (row1 hA9) (Nat.le_refl _) (by decide)).mono ?_; rintro ee w10 ⟨rfl, hb10⟩
  have HC10 := HC9.below hb10.below
  have HB10 := HB9.trans (hb10.below.mono HB9.size)
  clear hA9 HC9 HB9 hb10 hR9'
  go_wp2_with fail
  refine (run_any g 1 1 3 0 20 20 [bnd1] w w10 HC10 (by decide)).mono ?_; rintro ee w11 ⟨R11, c11, rfl, hc11, hR11, hb11⟩
  have HB11 := HB10.trans (hb11.mono HB10.size)
  rw [ru2] at *
  clear hR11 HC10 hb11 HB10
  go_wp2_with fail
  go_ret
  exact ⟨rfl, HB11⟩
end Go.Proofs.YtpgifeoigconbaaDoor.Cl
