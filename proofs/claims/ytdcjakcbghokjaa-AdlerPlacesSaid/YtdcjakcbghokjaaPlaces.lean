/- Texts in which two unlike bytes that stand side by side changed places have unlike sums: for every text, without conditions. -/
import Derived.Test.YtdcjakcbghokjaaBytes
import Derived.Lib.Hide
import Derived.StillTailTactics
import Derived.Deep.RegionHeld3
namespace Go.Proofs.Ytdcjakcbghokjaa.Places
open Go.RowKit Go.Proofs.Ytdcjakcbghokjaa.Bytes Go.Proofs.Ytdcjakcbghokjaa.PAdlerRolls Go.Proofs.Ytdcjakcbghokjaa.Rolls Go.Proofs.YtdcjakcbghokjaaW.PrintWords Go.Proofs.YtdcjakcbghokjaaW.PrintLast Go.Proofs.YtdcjakcbghokjaaW.PrintMore
attribute [local go_sem] max2_int min2_int max_two min_two max_three min_three max_four min_four
set_option linter.unusedVariables false
set_option linter.unusedSimpArgs false
theorem sum_calls (s : ByteArray) (hs : (s.size : Int) ≤ 281474976710655) (w : World) : Calls Try.prog 12 #[.string s] w fun e w' => e = .returned (.int .u32 (en (hv s))) ∧ Below w.heap.size w w' := sum_gives s hs w
theorem swap_eq (s : ByteArray) (i : Nat) (hi : i + 1 < s.size) (x y : Int) (hx : bt s i = x) (hy : bt s ((i + 1 : Nat) : Int) = y) :
    ((en (hv (strOfNums (((bytesOf s).set i y).set (i + 1) x))) == en (hv s)) == (y == x)) = true := by
  have bx := bt_range s i
  have by_ := bt_range s ((i + 1 : Nat) : Int)
  rw [hx] at bx
  rw [hy] at by_
  have hl : (bytesOf s).length = s.size := bytesOf_length s
  have b1 := hv_bd (strOfNums (((bytesOf s).set i y).set (i + 1) x))
  have b2 := hv_bd s
  have hn : bytesOf (strOfNums (((bytesOf s).set i y).set (i + 1) x)) = ((bytesOf s).set i y).set (i + 1) x := bytes_of_nums _ (set_all (set_all (bytes_all s) i by_.1 by_.2) (i + 1) bx.1 bx.2)
  have e1 : ((bytesOf s).set i y).getD (i + 1) 0 = y := by
    rw [List.getD_eq_getElem?_getD, List.getElem?_set_ne (by omega), ← List.getD_eq_getElem?_getD, getD_bt, hy]
  have h1 : (hv (strOfNums (((bytesOf s).set i y).set (i + 1) x))).1 = (hv s).1 := by
    rw [hv_eq, hv_eq, hn, sm_set _ _ _ (by rw [List.length_set]; omega), sm_set _ _ _ (by omega), e1, getD_bt, hx]
    dsimp only; congr 1; omega
  have h2 : (hv (strOfNums (((bytesOf s).set i y).set (i + 1) x))).2 = ((hv s).2 + (y - x)) % 65521 := by
    rw [hv_eq, hv_eq, hn, wt_set _ _ _ (by rw [List.length_set]; omega), wt_set _ _ _ (by omega), e1, getD_bt, hx, strOfNums_size, List.length_set, List.length_set, hl]
    dsimp only
    rw [show wt (bytesOf s) + (y - x) * ((s.size : Int) - i) + (x - y) * ((s.size : Int) - ((i + 1 : Nat) : Int)) = wt (bytesOf s) + (y - x) by rw [show ((i + 1 : Nat) : Int) = (i : Int) + 1 by omega]; grind]
    omega
  by_cases hxy : y = x
  · have : en (hv (strOfNums (((bytesOf s).set i y).set (i + 1) x))) = en (hv s) := by unfold en; omega
    rw [beq_iff_eq.2 this, beq_iff_eq.2 hxy]; rfl
  · have : en (hv (strOfNums (((bytesOf s).set i y).set (i + 1) x))) ≠ en (hv s) := by unfold en; omega
    rw [beq_eq_false_iff_ne.2 this, beq_eq_false_iff_ne.2 hxy]; rfl
theorem short (a0 : ByteArray) (a1 : Int) (w : World) (n0 : Nat) (h0 : n0 ≤ a0.size)  (b0 : n0 ≤ 65520) (hs : n0 < 2)
   (e0 : (if 65520 < (a0.size : Int) then 65520 else (a0.size : Int)) = n0)
   (g0 : Gives 10 #[] (.bool true)) :
    Calls Try.prog 5 #[.string a0, .int .i64 a1] w fun e w' => e = .returned (.bool true) ∧ Below w.heap.size w w' := by
  have H := Below.refl w.heap.size w
  have t1 : decide ((n0 : Int) < 2) = true := by simp; omega
  have t2 : decide (n0 < 2) = true := by simp; omega
  go_enter Try.func5, Try.ntmps5
  go_wp2_with fail
  refine (g0 _).mono ?_; rintro e w30 ⟨rfl, hb⟩; replace H := H.trans (hb.mono H.size); clear hb
  go_wp2_with fail
  go_ret
  exact ⟨rfl, H⟩
theorem long (a0 : ByteArray) (a1 : Int) (w : World) (n0 i : Nat) (h0 : n0 ≤ a0.size)  (b0 : n0 ≤ 65520) (hs : 2 ≤ n0) (hi : i + 1 < n0)
   (e0 : (if 65520 < (a0.size : Int) then 65520 else (a0.size : Int)) = n0)
   (g0 : Gives 10 #[] (.bool true))
   (g1 : Gives 11 #[.int .i64 a1, .int .i64 (n0 - 1)] (.int .i64 i)) :
    Calls Try.prog 5 #[.string a0, .int .i64 a1] w fun e w' => e = .returned (.bool true) ∧ Below w.heap.size w w' := by
  have H := Below.refl w.heap.size w
  have t1 : decide ((n0 : Int) < 2) = false := by simp; omega
  have t2 : decide (n0 < 2) = false := by simp; omega
  have hz0 : (a0.extract 0 n0).size = n0 := by rw [ByteArray.size_extract]; omega
  have kb := fun W => print_bytes (P := Try.prog) 9 28 5 Try.underlying9 Try.underlying28 Try.underlying5 (a0.extract 0 n0) W
  go_enter Try.func5, Try.ntmps5
  go_wp2_with fail
  refine (g0 _).mono ?_; rintro e w30 ⟨rfl, hb⟩; replace H := H.trans (hb.mono H.size); clear hb
  go_wp2_with fail
  generalize a0.extract 0 n0 = s at *
  subst hz0
  clear t1 t2 e0 h0
  have hB := bytes_new w30 s
  have hge := H.size
  replace H := bytes_below H H.size 5 s
  generalize grownCap w30 s.size 0 5 = cp at *
  generalize w30.heap.size = B at *
  generalize Lib.bytesWorld w30 5 s = w31 at *
  clear kb
  refine (g1 _).mono ?_; rintro e w30 ⟨rfl, hb⟩; replace H := H.trans (hb.mono H.size); replace hB := hB.below hb; clear hb
  obtain ⟨hc, hf⟩ := hB i (by rw [bytesOf_length]; omega)
  obtain ⟨hc', hf'⟩ := hB (i + 1) (by rw [bytesOf_length]; exact hi)
  rw [getD_bt] at hc hc'
  have hbt := bt_range s i
  have hbt' := bt_range s ((i + 1 : Nat) : Int)
  obtain ⟨x, hx⟩ : ∃ x, bt s i = x := ⟨_, rfl⟩
  obtain ⟨y, hy⟩ : ∃ y, bt s ((i + 1 : Nat) : Int) = y := ⟨_, rfl⟩
  rw [hx] at hc hbt
  rw [hy] at hc' hbt'
  have HX := Lib.hid hx; clear hx
  have HY := Lib.hid hy; clear hy
  have hB2 : Bytes ((w30.setCell ⟨B, i, none⟩ (.int .u8 y)).setCell ⟨B, i + 1, none⟩ (.int .u8 x)) B (((bytesOf s).set i y).set (i + 1) x) :=
    (hB.set i y (by rw [bytesOf_length]; omega)).set (i + 1) x (by rw [List.length_set, bytesOf_length]; exact hi)
  have H2 : Below w.heap.size w ((w30.setCell ⟨B, i, none⟩ (.int .u8 y)).setCell ⟨B, i + 1, none⟩ (.int .u8 x)) := (H.setCell (p := ⟨B, i, none⟩) hge _).setCell (p := ⟨B, i + 1, none⟩) hge _
  go_wp2_with fail
  generalize hl : ((bytesOf s).set i y).set (i + 1) x = xs at *
  have hxl : xs.length = s.size := by rw [← hl]; simp [bytesOf_length]
  have hxi : xs.getD i 0 = y := by rw [← hl]; simp [List.getD_eq_getElem?_getD, bytesOf_length, show i < s.size by omega]
  have hxj : xs.getD (i + 1) 0 = x := by rw [← hl]; simp [List.getD_eq_getElem?_getD, bytesOf_length, hi]
  have HE : Hid (((en (hv (strOfNums xs)) == en (hv s)) == (y == x)) = true) := Lib.hid (by rw [← hl]; exact swap_eq s i hi x y HX.out HY.out)
  clear hl
  generalize (w30.setCell ⟨B, i, none⟩ (.int .u8 y)).setCell ⟨B, i + 1, none⟩ (.int .u8 x) = w2 at *
  have hts : (strOfNums xs).size = s.size := by rw [strOfNums_size, hxl]
  have hS : ∀ W, Below w.heap.size w W → Bytes W B xs → Below w.heap.size w W ∧ Bytes W B xs ∧ W.cell? ⟨B, i, none⟩ = some (.int .u8 y) ∧ W.cell? ⟨B, i + 1, none⟩ = some (.int .u8 x) ∧
      (convert 28 9 (.slice (some ⟨B, 0, none⟩) s.size cp)).run Try.prog W = .ok (.string (strOfNums xs)) W := by
    intro W h1 h2
    refine ⟨h1, h2, ?_, ?_, ?_⟩
    · rw [(h2 i (by omega)).1, hxi]
    · rw [(h2 (i + 1) (by omega)).1, hxj]
    · have := string_of_reads (P := Try.prog) (c := cp) Try.underlying28 Try.underlying5 Try.underlying9 (h2.reads (by omega))
      rw [hxl] at this; exact this
  have hS2 : ∀ W W', (Below w.heap.size w W ∧ Bytes W B xs ∧ W.cell? ⟨B, i, none⟩ = some (.int .u8 y) ∧ W.cell? ⟨B, i + 1, none⟩ = some (.int .u8 x) ∧ (convert 28 9 (.slice (some ⟨B, 0, none⟩) s.size cp)).run Try.prog W = .ok (.string (strOfNums xs)) W) → Below W.heap.size W W' → (Below w.heap.size w W' ∧ Bytes W' B xs ∧ W'.cell? ⟨B, i, none⟩ = some (.int .u8 y) ∧ W'.cell? ⟨B, i + 1, none⟩ = some (.int .u8 x) ∧ (convert 28 9 (.slice (some ⟨B, 0, none⟩) s.size cp)).run Try.prog W' = .ok (.string (strOfNums xs)) W') := fun W W' h h3 => hS W' (h.1.trans (h3.mono h.1.size)) (h.2.1.below h3)
  obtain ⟨_, _, c1, c2, c3⟩ := hS w2 H2 hB2
  have HS := Lib.hid hS; clear hS
  have HS2 := Lib.hid hS2; clear hS2
  have HX' := Lib.hid hxi; clear hxi
  have HY' := Lib.hid hxj; clear hxj
  have HXL := Lib.hid hxl; clear hxl
  generalize strOfNums xs = t at *
  clear H hB hf hf' hc hc'
  have p1 : (0 : Int) ≤ i := by omega
  have p2 : (i : Int) < s.size := by omega
  have p3 : (0 : Int) ≤ i + 1 := by omega
  have p4 : (i : Int) + 1 < s.size := by omega
  have q1 : IntKind.i64.wrap ((i : Int) + 1) = (i : Int) + 1 := IntWalk.i64_in _ (by omega)
  have q2 : ((i : Int) + 1).toNat = i + 1 := by omega
  go_region_held3 (fun w' => Below w.heap.size w w' ∧ Bytes w' B xs ∧ w'.cell? ⟨B, i, none⟩ = some (.int .u8 y) ∧ w'.cell? ⟨B, i + 1, none⟩ = some (.int .u8 x) ∧
      (convert 28 9 (.slice (some ⟨B, 0, none⟩) s.size cp)).run Try.prog w' = .ok (.string t) w')
    (first | assumption | exact HS.out _ (by assumption) (by assumption) | exact HS.out _ (Below.drew (by assumption)) (fun j hj => (by assumption : Bytes _ _ _) j hj))
    (first | (go_at_call 12; (with_reducible refine (sum_calls t (by omega) _).mono ?_); rintro e w' ⟨rfl, hb⟩; have hh := HS2.out _ _ (by assumption) hb) | (go_at_call 12; (with_reducible refine (sum_calls s (by omega) _).mono ?_); rintro e w' ⟨rfl, hb⟩; have hh := HS2.out _ _ (by assumption) hb))
  have H3 := ‹Below w.heap.size w _ ∧ _›
  go_wp2_with fail
  go_ret
  exact ⟨by rw [HE.out]; rfl, H3.1⟩
theorem walk (a0 : ByteArray) (a1 : Int) (w : World) (_ : a0.size ≤ 140737488351232) (w1 : (Lit.int .i64 a1).wf = true) :
    Calls Try.prog 5 #[.string a0, .int .i64 a1] w fun e w' => e = .returned (.bool true) ∧ Below w.heap.size w w' := by
  obtain ⟨n0, h0, b0, e0⟩ : ∃ n : Nat, n ≤ a0.size ∧ n ≤ 65520 ∧ (if 65520 < (a0.size : Int) then 65520 else (a0.size : Int)) = (n : Int) :=
    ⟨min a0.size 65520, by omega, by omega, by split <;> omega⟩
  have g0 : Gives 10 #[] (.bool true) := fun w => billetlaw02_awake.calls 10 true w (awake_yes 10 (by omega))
  by_cases hs : n0 < 2
  · exact short a0 a1 w n0 h0 b0 hs e0 g0
  · have hb := int64_bd w1
    obtain ⟨r, hr, r0, r1⟩ := pick_some a1 (n0 - 1) hb.1 hb.2 (by omega)
    obtain ⟨q, rfl⟩ := Int.eq_ofNat_of_zero_le r0
    exact long a0 a1 w n0 q h0 b0 (by omega) (by omega) e0 g0 (fun w => (billetlaw02_pick.calls _ _ _ w hr).mono fun _ _ h => ⟨h.1, h.2.below⟩)
end Go.Proofs.Ytdcjakcbghokjaa.Places
