/- Texts of one length that differ in just one byte have unlike sums: for every text, without conditions. -/
import Derived.Test.YtdcjakcbghokjaaBytes
import Derived.Lib.Hide
import Derived.StillTailTactics
namespace Go.Proofs.Ytdcjakcbghokjaa.One
open Go.RowKit Go.Proofs.Ytdcjakcbghokjaa.Bytes Go.Proofs.Ytdcjakcbghokjaa.PAdlerRolls Go.Proofs.Ytdcjakcbghokjaa.Rolls Go.Proofs.YtdcjakcbghokjaaW.PrintWords Go.Proofs.YtdcjakcbghokjaaW.PrintLast Go.Proofs.YtdcjakcbghokjaaW.PrintMore
set_option linter.unusedVariables false
set_option linter.unusedSimpArgs false
theorem empty_ (s : ByteArray) (a1 a2 : Int) (w : World) (hs : s.size = 0) (g0 : Gives 10 #[] (.bool true)) :
    Calls Try.prog 4 #[.string s, .int .i64 a1, .int .i64 a2] w fun e w' => e = .returned (.bool true) ∧ Below w.heap.size w w' := by
  have H := Below.refl w.heap.size w
  have z1 : ((s.size : Int) == 0) = true := by simp [hs]
  have z2 : (s.size == 0) = true := by simp [hs]
  clear hs
  go_enter Try.func4, Try.ntmps4
  go_wp2_with fail
  refine (g0 _).mono ?_; rintro e w30 ⟨rfl, hb⟩; replace H := H.trans (hb.mono H.size); clear hb
  go_wp2_with fail
  go_ret
  exact ⟨rfl, H⟩
theorem one (s : ByteArray) (a1 a2 : Int) (w : World) (hs : 0 < s.size) (hs2 : s.size ≤ 140737488351232) (i q : Nat) (hi : i < s.size) (hq : q < 255)
   (n2 : -9223372036854775808 ≤ a2) (n3 : a2 ≤ 9223372036854775807) (hq2 : (if a2 < 0 then -(a2 + 1) else a2) % 255 = q)
   (g0 : Gives 10 #[] (.bool true))
   (g1 : Gives 11 #[.int .i64 a1, .int .i64 s.size] (.int .i64 i)) :
    Calls Try.prog 4 #[.string s, .int .i64 a1, .int .i64 a2] w fun e w' => e = .returned (.bool true) ∧ Below w.heap.size w w' := by
  have H := Below.refl w.heap.size w
  have HQ := Lib.hid hq2; clear hq2
  have z1 : ((s.size : Int) == 0) = false := by simp; intro h; subst h; simp at hs
  have z2 : (s.size == 0) = false := by simp; intro h; subst h; simp at hs
  have kb := fun W => print_bytes (P := Try.prog) 9 28 5 Try.underlying9 Try.underlying28 Try.underlying5 s W
  go_enter Try.func4, Try.ntmps4
  go_wp2_with fail
  refine (g0 _).mono ?_; rintro e w30 ⟨rfl, hb⟩; replace H := H.trans (hb.mono H.size); clear hb
  go_wp2_with fail
  have hB := bytes_new w30 s
  have hge := H.size
  replace H := bytes_below H H.size 5 s
  generalize grownCap w30 s.size 0 5 = cp at *
  generalize w30.heap.size = B at *
  generalize Lib.bytesWorld w30 5 s = w31 at *
  clear kb
  refine (g1 _).mono ?_; rintro e w30 ⟨rfl, hb⟩; replace H := H.trans (hb.mono H.size); replace hB := hB.below hb; clear hb
  go_wp2_with fail
  obtain ⟨hc, hf⟩ := hB i (by rw [bytesOf_length]; exact hi)
  rw [show (bytesOf s).getD i 0 = bt s i by rw [← rd_bytesOf]; simp [rd]] at hc
  have hbt := bt_range s i
  obtain ⟨x, hx⟩ : ∃ x, bt s i = x := ⟨_, rfl⟩
  rw [hx] at hc hbt
  have HX := Lib.hid hx; clear hx
  refine wp_region_still_tail 12 (by kernel_rfl) (by kernel_rfl) ?_
  simp only [List.take_succ_cons, List.take_zero, List.drop_succ_cons, List.drop_zero]
  still_step
  still_step
  still_step
  still_step
  still_step
  still_step
  still_step
  still_call (by have := pick_same a2 255 { heap := w30.heap, tape := w30.tape, drawn := w30.drawn + 1, os := w30.os, output := w30.output } n2 n3 (by omega); rw [HQ.out] at this; exact this)
  still_step
  still_step
  still_step
  still_step
  refine wpStill_nil ?_
  obtain ⟨y, hy⟩ : ∃ y, bits .xor .u8 x (IntKind.u8.wrap (IntKind.i64.wrap (1 + ↑q))) = y := ⟨_, rfl⟩
  rw [hy]
  have HY := Lib.hid hy; clear hy
  have hB2 : Bytes (w30.setCell ⟨B, i, none⟩ (.int .u8 y)).drew B ((bytesOf s).set i y) := fun j hj => hB.set i y (by rw [bytesOf_length]; exact hi) j hj
  have H2 : Below w.heap.size w (w30.setCell ⟨B, i, none⟩ (.int .u8 y)).drew := (H.setCell (p := ⟨B, i, none⟩) hge _).drew
  have hcv := string_of_reads (P := Try.prog) (c := cp) Try.underlying28 Try.underlying5 Try.underlying9 (hB2.reads (by rw [List.length_set, bytesOf_length]; omega))
  rw [List.length_set, bytesOf_length] at hcv
  have hd : IntKind.u8.wrap (IntKind.i64.wrap (1 + (q : Int))) = 1 + q := by
    rw [IntKind.wrap_i64, IntKind.wrap_u8]; omega
  have hxy := xor_ne x (1 + q) hbt.1 hbt.2 (by omega) (by omega)
  rw [← hd, HY.out] at hxy
  have hne : Hid ((en (hv (strOfNums ((bytesOf s).set i y))) != en (hv s)) = true) := Lib.hid (by
    rw [bne_iff_ne]; exact one_ne s i y hi hxy.1 hxy.2.1 (by rw [HX.out]; exact hxy.2.2))
  have hts : (strOfNums ((bytesOf s).set i y)).size = s.size := by rw [strOfNums_size, List.length_set, bytesOf_length]
  generalize strOfNums ((bytesOf s).set i y) = t at *
  change wpList _ _ _ _ _ w30.drew
  go_wp2_with fail
  refine (sum_gives t (by omega) _).mono ?_; rintro e w32 ⟨rfl, hb⟩; replace H2 := H2.trans (hb.mono H2.size); clear hb
  go_wp2_with fail
  refine (sum_gives s (by omega) _).mono ?_; rintro e w32 ⟨rfl, hb⟩; replace H2 := H2.trans (hb.mono H2.size); clear hb
  go_wp2_with fail
  go_ret
  exact ⟨by rw [hne.out]; rfl, H2⟩
theorem walk (s : ByteArray) (a1 a2 : Int) (w : World) (w0 : s.size ≤ 140737488351232) (w1 : (Lit.int .i64 a1).wf = true) (w2 : (Lit.int .i64 a2).wf = true) :
    Calls Try.prog 4 #[.string s, .int .i64 a1, .int .i64 a2] w fun e w' => e = .returned (.bool true) ∧ Below w.heap.size w w' := by
  have g0 : Gives 10 #[] (.bool true) := fun w => billetlaw02_awake.calls 10 true w (awake_yes 10 (by omega))
  have b1 := int64_bd w1
  have b2 := int64_bd w2
  by_cases hs : s.size = 0
  · exact empty_ s a1 a2 w hs g0
  · obtain ⟨r, hr, r0, r1⟩ := pick_some a1 s.size b1.1 b1.2 (by omega)
    obtain ⟨i, rfl⟩ := Int.eq_ofNat_of_zero_le r0
    have h0 := Int.emod_nonneg (if a2 < 0 then -(a2 + 1) else a2) (show (255 : Int) ≠ 0 by omega)
    have h1 := Int.emod_lt_of_pos (if a2 < 0 then -(a2 + 1) else a2) (show (0 : Int) < 255 by omega)
    obtain ⟨q, hq⟩ := Int.eq_ofNat_of_zero_le h0
    exact one s a1 a2 w (by omega) w0 i q (by omega) (by omega) b2.1 b2.2 hq g0 (fun w => (billetlaw02_pick.calls _ _ _ w hr).mono fun _ _ h => ⟨h.1, h.2.below⟩)
end Go.Proofs.Ytdcjakcbghokjaa.One
