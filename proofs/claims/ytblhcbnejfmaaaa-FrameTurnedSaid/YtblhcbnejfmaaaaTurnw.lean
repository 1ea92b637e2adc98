import Derived.Test.YtblhcbnejfmaaaaTurn
namespace Go.Proofs.Ytblhcbnejfmaaaa.Turnw
set_option linter.unusedVariables false
set_option linter.unusedSimpArgs false
open Go.RowKit Go.Proofs.YtblhcbnejfmaaaaW.PrintWords Go.Proofs.YtblhcbnejfmaaaaW.PrintLast Go.Proofs.YtblhcbnejfmaaaaW.PrintMore Go.Proofs.Ytblhcbnejfmaaaa.Num Go.Proofs.Ytblhcbnejfmaaaa.Vth Go.Proofs.Ytblhcbnejfmaaaa.Giv Go.Proofs.Ytblhcbnejfmaaaa.Q Go.Proofs.Ytblhcbnejfmaaaa.Vrd Go.Proofs.Ytblhcbnejfmaaaa.Fad Go.Proofs.Ytblhcbnejfmaaaa.Fth Go.Proofs.Ytblhcbnejfmaaaa.Fbk Go.Proofs.Ytblhcbnejfmaaaa.Turn
attribute [local go_sem] max2_int min2_int max_two min_two max_three min_three max_four min_four
theorem pick_eq (a n : Int) (h1 : -9223372036854775808 ≤ a) (h2 : a ≤ 9223372036854775807) (hn : 0 < n) : ∃ m : Nat, billetlaw03_pick.f a n = some (m : Int) ∧ (m : Int) < n := by
  unfold billetlaw03_pick.f
  by_cases h : a < 0
  · rw [if_pos h, if_neg (by omega), wrap_in (a + 1) (by omega) (by omega), wrap_in _ (by omega) (by omega), Int.tmod_eq_emod_of_nonneg (by omega)]
    have := Int.emod_nonneg (-(a + 1)) (show n ≠ 0 by omega)
    have := Int.emod_lt_of_pos (-(a + 1)) hn
    exact ⟨(-(a + 1) % n).toNat, by congr 1; omega, by omega⟩
  · rw [if_neg h, if_neg (by omega), Int.tmod_eq_emod_of_nonneg (by omega)]
    have := Int.emod_nonneg a (show n ≠ 0 by omega)
    have := Int.emod_lt_of_pos a hn
    exact ⟨(a % n).toNat, by congr 1; omega, by omega⟩
theorem wrap_d (q : Nat) (hq : q < 255) : IntKind.u8.wrap (IntKind.i64.wrap (1 + (q : Int))) = 1 + q := by
  rw [IntKind.wrap_i64, IntKind.wrap_u8]; omega
theorem main (a0 : ByteArray) (a1 a2 : Int) (w : World) (n0 i q c : Nat) (s : ByteArray) (h0 : n0 ≤ a0.size) (b0 : n0 ≤ 4096) (hs : s = fr (a0.extract 0 n0)) (hc1 : 1 ≤ c) (hc2 : c ≤ 10) (hcc : c = (num (n0 : Int)).size) (hsz : s.size = c + n0 + 4)
   (hi : i < n0 + 4) (hq : q < 255)
   (e0 : (if 4096 < (a0.size : Int) then 4096 else (a0.size : Int)) = n0)
   (n2 : -9223372036854775808 ≤ a2) (n3 : a2 ≤ 9223372036854775807) (hq2 : (if a2 < 0 then -(a2 + 1) else a2) % 255 = q)
   (g0 : Gives 10 #[] (.bool true))
   (g1 : Gives 11 #[.string (a0.extract 0 n0)] (.tuple #[.string s, .int .i64 0]))
   (g2 : Gives 13 #[.int .i64 a1, .int .i64 ((n0 : Int) + 4)] (.int .i64 i))
   (g3 : ∀ t : ByteArray, t.size = s.size → take t = (⟨#[]⟩, 0, 31) → Gives 12 #[.string t] (.tuple #[.string ⟨#[]⟩, .int .i64 0, .int .i64 31])) :
    Calls Try.prog 5 #[.string a0, .int .i64 a1, .int .i64 a2] w fun e w' => e = .returned (.bool true) ∧ Below w.heap.size w w' := by
  have H := Below.refl w.heap.size w
  have HQ := Lib.hid hq2; clear hq2
  have HS := Lib.hid hs; clear hs
  have HC := Lib.hid hcc; clear hcc
  have hz0 : (a0.extract 0 n0).size = n0 := by rw [ByteArray.size_extract]; omega
  have kb := fun W => print_bytes (P := Try.prog) 9 31 5 Try.underlying9 Try.underlying31 Try.underlying5 s W
  have x1 : IntKind.i64.wrap ((s.size : Int) - n0) = (c : Int) + 4 := by rw [IntKind.wrap_i64]; omega
  have x2 : IntKind.i64.wrap ((c : Int) + 4 - 4) = (c : Int) := by rw [IntKind.wrap_i64]; omega
  have x3 : IntKind.i64.wrap ((s.size : Int) - c) = (n0 : Int) + 4 := by rw [IntKind.wrap_i64]; omega
  have x4 : IntKind.i64.wrap ((c : Int) + i) = ((c + i : Nat) : Int) := by rw [IntKind.wrap_i64]; omega
  have t1 : decide ((c : Int) < 1) = false := by simp; omega
  have t2 : decide (c < 1) = false := by simp; omega
  go_enter Try.func5, Try.ntmps5
  go_wp2_with fail
  refine (g0 _).mono ?_; rintro e w30 ⟨rfl, hb⟩; replace H := H.trans (hb.mono H.size); clear hb
  go_wp2_with fail
  refine (g1 _).mono ?_; rintro e w30 ⟨rfl, hb⟩; replace H := H.trans (hb.mono H.size); clear hb
  go_wp2_with fail
  have hB := bytes_new w30 s
  have hge := H.size
  replace H := bytes_below H H.size 5 s
  have y2 : (c : Int) + n0 + 4 - ((c : Int) + n0 + 4 - n0 - 4) = n0 + 4 := by omega
  have y1 : (c : Int) + n0 + 4 - n0 - 4 = c := by omega
  rw [y2]
  rw [y1]
  clear y1 y2
  generalize grownCap w30 (c + n0 + 4) 0 5 = cp at *
  generalize w30.heap.size = B at *
  generalize Lib.bytesWorld w30 5 s = w31 at *
  clear kb
  refine (g2 _).mono ?_; rintro e w30 ⟨rfl, hb⟩; replace H := H.trans (hb.mono H.size); replace hB := hB.below hb; clear hb
  obtain ⟨hc, hf⟩ := hB (c + i) (by rw [bytesOf_length]; omega)
  rw [getD_bt] at hc
  have hbt := bt_range s ((c + i : Nat) : Int)
  obtain ⟨x, hx⟩ : ∃ x, bt s ((c + i : Nat) : Int) = x := ⟨_, rfl⟩
  rw [hx] at hc hbt
  have HX := Lib.hid hx; clear hx
  go_wp2_with fail
  rw [show (c : Int) + i = ((c + i : Nat) : Int) by omega]
  obtain ⟨j, hj⟩ : ∃ j, c + i = j := ⟨_, rfl⟩
  obtain ⟨L, hL⟩ : ∃ L, c + n0 + 4 = L := ⟨_, rfl⟩
  have hjL : j < L := by omega
  have hcj : c ≤ j := by omega
  have hL2 : L ≤ 5000 := by omega
  rw [hj] at hc hf HX
  rw [hj, hL]
  rw [hL] at hsz
  clear x1 x2 x3 x4 t1 t2 hj hL hi b0
  refine wp_region_still_tail 12 (by kernel_rfl) (by kernel_rfl) ?_
  simp only [List.take_succ_cons, List.take_zero, List.drop_succ_cons, List.drop_zero]
  still_step
  still_step
  still_step
  still_step
  still_step
  still_step
  still_step
  still_call (by have := pick_same a2 255 { heap := w30.heap, tape := w30.tape, drawn := w30.drawn + 1, os := w30.os, output := w30.output } n2 n3 (by omega); rw [HQ.out] at this; exact this)
  still_step
  still_step
  still_step
  still_step
  refine wpStill_nil ?_
  obtain ⟨y, hy⟩ : ∃ y, bits .xor .u8 x (IntKind.u8.wrap (IntKind.i64.wrap (1 + ↑q))) = y := ⟨_, rfl⟩
  rw [hy]
  have HY := Lib.hid hy; clear hy
  have hB2 : Bytes (w30.setCell ⟨B, j, none⟩ (.int .u8 y)).drew B ((bytesOf s).set j y) := fun j' hj' => hB.set j y (by rw [bytesOf_length]; omega) j' hj'
  have H2 : Below w.heap.size w (w30.setCell ⟨B, j, none⟩ (.int .u8 y)).drew := (H.setCell (p := ⟨B, j, none⟩) hge _).drew
  have hcv := string_of_reads (P := Try.prog) (c := cp) Try.underlying31 Try.underlying5 Try.underlying9 (hB2.reads (by rw [List.length_set, bytesOf_length]; omega))
  rw [List.length_set, bytesOf_length, hsz] at hcv
  have hd : IntKind.u8.wrap (IntKind.i64.wrap (1 + (q : Int))) = 1 + q := wrap_d q hq
  have hxy := xor_ne x (1 + q) hbt.1 hbt.2 (by omega) (by omega)
  rw [← hd, HY.out] at hxy
  have hts : (strOfNums ((bytesOf s).set j y)).size = s.size := by rw [strOfNums_size, List.length_set, bytesOf_length]
  have htk : take (strOfNums ((bytesOf s).set j y)) = (⟨#[]⟩, 0, 31) := by
    have hs := HS.out
    subst hs
    exact take_turned _ (by omega) j y (by rw [hz0, ← HC.out]; omega) (by omega) hxy.1 hxy.2.1 (by rw [HX.out]; exact hxy.2.2)
  generalize strOfNums ((bytesOf s).set j y) = t at *
  change wpList _ _ _ _ _ w30.drew
  go_wp2_with fail
  refine (g3 t hts htk _).mono ?_; rintro e w32 ⟨rfl, hb⟩; replace H2 := H2.trans (hb.mono H2.size); clear hb
  go_wp2_with fail
  go_ret
  exact ⟨rfl, H2⟩
theorem walk (a0 : ByteArray) (a1 a2 : Int) (w : World) (w0 : a0.size ≤ 140737488351232) (w1 : (Lit.int .i64 a1).wf = true) (w2 : (Lit.int .i64 a2).wf = true) :
    Calls Try.prog 5 #[.string a0, .int .i64 a1, .int .i64 a2] w fun e w' => e = .returned (.bool true) ∧ Below w.heap.size w w' := by
  have b1 := int64_bd w1
  have b2 := int64_bd w2
  obtain ⟨n0, h0, b0, e0⟩ : ∃ n : Nat, n ≤ a0.size ∧ n ≤ 4096 ∧ (if 4096 < (a0.size : Int) then 4096 else (a0.size : Int)) = (n : Int) :=
    ⟨min a0.size 4096, by omega, by omega, by split <;> omega⟩
  have hz0 : (a0.extract 0 n0).size = n0 := by rw [ByteArray.size_extract]; omega
  have hn := num_size_bd n0
  have hs := fr_size (a0.extract 0 n0)
  rw [hz0] at hs
  have hp := pick_eq a1 ((n0 : Int) + 4) b1.1 b1.2 (by omega)
  obtain ⟨i, hi, hi2⟩ := hp
  have m0 := Int.emod_nonneg (if a2 < 0 then -(a2 + 1) else a2) (show (255 : Int) ≠ 0 by omega)
  have m1 := Int.emod_lt_of_pos (if a2 < 0 then -(a2 + 1) else a2) (show (0 : Int) < 255 by omega)
  obtain ⟨q, hq⟩ := Int.eq_ofNat_of_zero_le m0
  obtain ⟨k, hk⟩ : ∃ k, k = 6002 := ⟨_, rfl⟩
  obtain ⟨c, hc⟩ : ∃ c, c = (num (n0 : Int)).size := ⟨_, rfl⟩
  obtain ⟨s, hs'⟩ : ∃ s, s = fr (a0.extract 0 n0) := ⟨_, rfl⟩
  rw [← hc] at hn hs
  rw [← hs'] at hs
  have hi3 : i < n0 + 4 := by omega
  have hq3 : q < 255 := by omega
  refine main a0 a1 a2 w n0 i q c s h0 b0 hs' hn.1 hn.2 hc hs hi3 hq3 e0 b2.1 b2.2 hq ?_ ?_ ?_ ?_
  · exact fun w => billetlaw03_awake.calls k true w (awake_yes k (by omega))
  · rw [hs']
    exact fun w => frame_Lay.calls k _ _ _ w (Lay_eq k _ (by omega) (by omega))
  · exact fun w => (billetlaw03_pick.calls _ _ _ w hi).mono fun _ _ h => ⟨h.1, h.2.below⟩
  · intro t ht1 ht2 w
    have e := Take_eq k (by omega) t (by omega)
    rw [ht2] at e
    exact frame_Take.calls k _ _ _ _ w e
end Go.Proofs.Ytblhcbnejfmaaaa.Turnw
