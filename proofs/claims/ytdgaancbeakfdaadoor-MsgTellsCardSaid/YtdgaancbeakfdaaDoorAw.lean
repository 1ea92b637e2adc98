/- awake: chapter 16's example. -/
import Derived.Test.YtdgaancbeakfdaaDoorPg
import Derived.Test.YtdgaancbeakfdaaDoorSa
namespace Go.Proofs.YtdgaancbeakfdaaDoor.Aw
open Go.RowKit Go.Proofs.YtdgaancbeakfdaaDoorW.PrintWords Go.Proofs.YtdgaancbeakfdaaDoorW.PrintLast Go.Proofs.YtdgaancbeakfdaaDoor.Mo Go.Proofs.YtdgaancbeakfdaaDoor.Num Go.Proofs.YtdgaancbeakfdaaDoor.Vrd Go.Proofs.YtdgaancbeakfdaaDoor.Fth Go.Proofs.YtdgaancbeakfdaaDoor.Giv Go.Proofs.YtdgaancbeakfdaaDoor.Q Go.Proofs.YtdgaancbeakfdaaDoor.Rt Go.Proofs.YtdgaancbeakfdaaDoor.Pp Go.Proofs.YtdgaancbeakfdaaDoor.Gp Go.Proofs.YtdgaancbeakfdaaDoor.Gw Go.Proofs.YtdgaancbeakfdaaDoor.Pg
set_option linter.unusedVariables false
def exS : ByteArray := ⟨#[14, 2, 2, 4, 6, 8, 10, 0, 0, 234, 0, 47]⟩
theorem ex_right : rightS 1 1 2 3 4 5 [] = true := by kernel_rfl
theorem ex_fr : fr (Pp.payload 1 1 2 3 4 5 []) = exS := by kernel_rfl
theorem ex_get : getS exS = (1, 1, 2, 3, 4, 5, [], 0) := by kernel_rfl
theorem ex_getx : (getS (exS ++ ⟨#[120]⟩)).2.2.2.2.2.2.2 = 160 := by kernel_rfl
theorem ex_size : exS.size = 12 := by kernel_rfl
theorem ex_cut : exS.extract 0 8 = ⟨#[14, 2, 2, 4, 6, 8, 10, 0]⟩ := by kernel_rfl
set_option maxHeartbeats 8000000 in
set_option maxRecDepth 100000 in
theorem awake_calls (w : World) : Calls Tryd.prog 7 #[] w fun e w' => e = .returned (.bool true) ∧ Below w.heap.size w w' := by
  have hadd : ∀ w : World, (Op.stringOp .add exS ⟨#[120]⟩).run Tryd.prog w = .ok (.string (exS ++ ⟨#[120]⟩)) w := fun w => run_string_add_sum w exS ⟨#[120]⟩ (by decide)
  have hG := fun w hs => get_any exS w hs
  have hGx := fun w hs => get_any (exS ++ ⟨#[120]⟩) w hs
  have hP := fun (w : World) h1 h2 => Pp.put_yes 1 1 2 3 4 5 none 0 [] w h1 h2 ex_right
  unfold GetPost at hG hGx
  rw [ex_fr] at hP
  simp only [ex_get] at hG
  simp only [ex_getx] at hGx
  have ez := ex_size
  have ec := ex_cut
  have ez2 : (exS ++ ⟨#[120]⟩).size = 13 := by kernel_rfl
  generalize exS = s at *
  generalize s ++ ⟨#[120]⟩ = sx at *
  replace hG := Aside0.mk hG
  replace hGx := Aside0.mk hGx
  replace hP := Aside0.mk hP
  go_enter Tryd.func7, Tryd.ntmps7
  go_wp2_with fail
  have hM := blk_new w (.cells #[.int .i64 1, .int .i64 1, .int .i64 2, .int .i64 3, .int .i64 4, .int .i64 5, .slice none 0 0] 24)
  have HA := below_alloc (Below.refl w.heap.size w) (.cells #[.int .i64 1, .int .i64 1, .int .i64 2, .int .i64 3, .int .i64 4, .int .i64 5, .slice none 0 0] 24)
  refine (hP.out _ (Kd.C_nil _ _) (Nat.le_refl 0)).mono ?_; rintro ee w1 ⟨rfl, hb1⟩
  have hM1 := blk_below hM hb1
  have HB1 := HA.trans (hb1.mono HA.size)
  clear hM HA hb1
  go_wp2_with fail
  refine (hG.out _ (by omega)).mono ?_; rintro ee w2 ⟨v6, rfl, hR2, hb2⟩
  obtain ⟨A, c, rfl⟩ := Kd.R_slice hR2
  have hM2 := blk_below hM1 hb2
  have HB2 := HB1.trans (hb2.mono HB1.size)
  clear hM1 HB1 hb2
  go_wp2_with fail
  have hM3 := blk_alloc hM2 (.cells #[.int .i64 1, .int .i64 1, .int .i64 2, .int .i64 3, .int .i64 4, .int .i64 5, .slice A 0 c] 24)
  have hN3 := blk_new w2 (.cells #[.int .i64 1, .int .i64 1, .int .i64 2, .int .i64 3, .int .i64 4, .int .i64 5, .slice A 0 c] 24)
  have hR3 := Kd.R_below hR2 (below_alloc (Below.refl _ _) (.cells #[.int .i64 1, .int .i64 1, .int .i64 2, .int .i64 3, .int .i64 4, .int .i64 5, .slice A 0 c] 24))
  have HB3 := below_alloc HB2 (.cells #[.int .i64 1, .int .i64 1, .int .i64 2, .int .i64 3, .int .i64 4, .int .i64 5, .slice A 0 c] 24)
  clear hM2 hR2 HB2
  refine (hGx.out _ (by omega)).mono ?_; rintro ee w4 ⟨v7, rfl, hR7, hb4⟩
  obtain ⟨A', c', rfl⟩ := Kd.R_slice hR7
  have hM4 := blk_below hM3 hb4
  have hN4 := blk_below hN3 hb4
  have hR4 := Kd.R_below hR3 hb4
  have HB4 := HB3.trans (hb4.mono HB3.size)
  generalize (getS sx).1 = y0 at *
  generalize (getS sx).2.1 = y1 at *
  generalize (getS sx).2.2.1 = y2 at *
  generalize (getS sx).2.2.2.1 = y3 at *
  generalize (getS sx).2.2.2.2.1 = y4 at *
  generalize (getS sx).2.2.2.2.2.1 = y5 at *
  generalize (getS sx).2.2.2.2.2.2.1 = y6 at *
  clear hM3 hN3 hR3 HB3 hb4 hR7
  have hM5 := blk_alloc hM4 (.cells #[.int .i64 y0, .int .i64 y1, .int .i64 y2, .int .i64 y3, .int .i64 y4, .int .i64 y5, .slice A' y6.length c'] 24)
  have hN5 := blk_alloc hN4 (.cells #[.int .i64 y0, .int .i64 y1, .int .i64 y2, .int .i64 y3, .int .i64 y4, .int .i64 y5, .slice A' y6.length c'] 24)
  have hR5 := Kd.R_below hR4 (below_alloc (Below.refl _ _) (.cells #[.int .i64 y0, .int .i64 y1, .int .i64 y2, .int .i64 y3, .int .i64 y4, .int .i64 y5, .slice A' y6.length c'] 24))
  have HB5 := below_alloc HB4 (.cells #[.int .i64 y0, .int .i64 y1, .int .i64 y2, .int .i64 y3, .int .i64 y4, .int .i64 y5, .slice A' y6.length c'] 24)
  have m0 := (blk_cell hM5 0).trans rfl
  have m1 := (blk_cell hM5 1).trans rfl
  have m2 := (blk_cell hM5 2).trans rfl
  have m3 := (blk_cell hM5 3).trans rfl
  have m4 := (blk_cell hM5 4).trans rfl
  have m5 := (blk_cell hM5 5).trans rfl
  have m6 := (blk_cell hM5 6).trans rfl
  have n0 := (blk_cell hN5 0).trans rfl
  have n1 := (blk_cell hN5 1).trans rfl
  have n2 := (blk_cell hN5 2).trans rfl
  have n3 := (blk_cell hN5 3).trans rfl
  have n4 := (blk_cell hN5 4).trans rfl
  have n5 := (blk_cell hN5 5).trans rfl
  have n6 := (blk_cell hN5 6).trans rfl
  clear hM4 hN4 hR4 HB4
  go_wp2_with fail
  obtain ⟨_, hc5, hC5⟩ := Kd.R_reads' hR5
  refine (billetlaw16_Same.calls 2 1 1 2 3 4 5 A c [] 1 1 2 3 4 5 none 0 [] true _ hC5 hc5 (Kd.C_nil _ _) (Nat.le_refl 0) (msame_refl 1 1 2 3 4 5 [] (by simp))).mono ?_; rintro ee w6 ⟨rfl, hb6⟩
  have hM6 := blk_below hM5 hb6
  have HB6 := HB5.trans (hb6.mono HB5.size)
  clear m0 m1 m2 m3 m4 m5 m6 n0 n1 n2 n3 n4 n5 n6
  have m0 := (blk_cell hM6 0).trans rfl
  have m1 := (blk_cell hM6 1).trans rfl
  have m2 := (blk_cell hM6 2).trans rfl
  have m3 := (blk_cell hM6 3).trans rfl
  have m4 := (blk_cell hM6 4).trans rfl
  have m5 := (blk_cell hM6 5).trans rfl
  have m6 := (blk_cell hM6 6).trans rfl

  clear hM5 hN5 hR5 HB5 hC5 hb6
  go_wp2_with fail
  refine (right_calls 1 1 2 3 4 5 none 0 [] _ (Kd.C_nil _ _) (Nat.le_refl 0)).mono ?_; rintro ee w8 ⟨rfl, hb8⟩
  rw [ex_right]
  have HB8 := HB6.trans (hb8.mono HB6.size)
  go_wp2_with fail
  go_ret
  exact ⟨rfl, HB8⟩
end Go.Proofs.YtdgaancbeakfdaaDoor.Aw
