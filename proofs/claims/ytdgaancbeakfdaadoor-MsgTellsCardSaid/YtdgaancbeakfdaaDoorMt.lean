/- MsgTells: the walk. -/
import Derived.Test.YtdgaancbeakfdaaDoorAw
import Derived.Test.YtdgaancbeakfdaaDoorTp
import Derived.Test.YtdgaancbeakfdaaDoorSa
import Derived.Test.YtdgaancbeakfdaaDoorKm
namespace Go.Proofs.YtdgaancbeakfdaaDoor.Mt
open Go.RowKit Go.Proofs.YtdgaancbeakfdaaDoorW.PrintWords Go.Proofs.YtdgaancbeakfdaaDoorW.PrintLast Go.Proofs.YtdgaancbeakfdaaDoor.Mo Go.Proofs.YtdgaancbeakfdaaDoor.Num Go.Proofs.YtdgaancbeakfdaaDoor.Vrd Go.Proofs.YtdgaancbeakfdaaDoor.Fth Go.Proofs.YtdgaancbeakfdaaDoor.Giv Go.Proofs.YtdgaancbeakfdaaDoor.Q Go.Proofs.YtdgaancbeakfdaaDoor.Rt Go.Proofs.YtdgaancbeakfdaaDoor.Pp Go.Proofs.YtdgaancbeakfdaaDoor.Gp Go.Proofs.YtdgaancbeakfdaaDoor.Gw Go.Proofs.YtdgaancbeakfdaaDoor.Pg
set_option linter.unusedVariables false
set_option linter.unusedSimpArgs false
theorem get_len (s : ByteArray) : (getS s).2.2.2.2.2.2.1.length ≤ 65 := by
  unfold getS
  split
  · have := rdBs_len (take s).1 (rdV (take s).1 (0, false) 6) 65 0 [] (rdSt (take s).1 (0, false) 7)
    simpa [inside] using this
  · simp
set_option maxHeartbeats 8000000 in
set_option maxRecDepth 100000 in
theorem tells_any (b0 b1 b2 b3 b4 b5 : Int) (A0 : Option Addr) (c0 : Nat) (l0 : List S42) (s : ByteArray) (w : World) (hr0 : Kd.C k42 w A0 l0.length l0) (hc0 : l0.length ≤ c0) (hs : s.size ≤ 4611686018427387904) :
    Calls Tryd.prog 3 #[.agg #[.int .i64 b0, .int .i64 b1, .int .i64 b2, .int .i64 b3, .int .i64 b4, .int .i64 b5, .slice A0 l0.length c0], .string s] w fun e w' => e = .returned (.bool true) ∧ Below w.heap.size w w' := by
  have hrc := fun (w : World) h1 => right_calls b0 b1 b2 b3 b4 b5 A0 c0 l0 w h1 hc0
  have hqc := fun (w : World) h1 => billetref16_Right.calls _ b0 b1 b2 b3 b4 b5 A0 c0 l0 _ w h1 hc0 (ref_right_eq l0 b0 b1 b2 b3 b4 b5)
  have hbig : 100 < l0.length → rightS b0 b1 b2 b3 b4 b5 l0 = false := fun h => by
    cases hR : rightS b0 b1 b2 b3 b4 b5 l0 with
    | false => rfl
    | true => have := (right_in hR).2.1; omega
  obtain ⟨S, E, hPut⟩ : ∃ S E, Pp.msg_Put.f b0 b1 b2 b3 b4 b5 l0 = some (S, E) := by
    unfold Pp.msg_Put.f
    split
    · exact ⟨_, _, rfl⟩
    · exact ⟨_, _, rfl⟩
  have hP1 := fun (w : World) h1 => Pg.msg_Put.calls b0 b1 b2 b3 b4 b5 A0 c0 l0 S E w h1 hc0 hPut
  have hP2 := fun (w : World) h1 => billetref16_Put.calls (2 * l0.length + 5400) b0 b1 b2 b3 b4 b5 A0 c0 l0 S E w h1 hc0 ((Tp.rput b0 b1 b2 b3 b4 b5 l0 _ (Nat.le_refl _)).trans hPut)
  have hlen := get_len s
  have hf1 : msg_Get.f s = some (getS s) := if_pos hs
  have hf2 := Tp.rget s hs (s.size + 7000) (Nat.le_refl _)
  generalize getS s = g at *
  obtain ⟨g0, g1, g2, g3, g4, g5, l1, g7⟩ := g
  replace hlen : l1.length ≤ 65 := hlen
  have hG1 := fun (w : World) => msg_Get.calls s g0 g1 g2 g3 g4 g5 l1 g7 w hf1
  have hG2 := fun (w : World) => billetref16_Get.calls _ s g0 g1 g2 g3 g4 g5 l1 g7 w hf2
  have hsm := msame_refl g0 g1 g2 g3 g4 g5 l1 (by omega)
  generalize rightS b0 b1 b2 b3 b4 b5 l0 = rr at *
  clear hPut hf1 hf2
  replace hrc := Aside0.mk hrc
  replace hqc := Aside0.mk hqc
  replace hbig := Aside0.mk hbig
  replace hP1 := Aside0.mk hP1
  replace hP2 := Aside0.mk hP2
  replace hG1 := Aside0.mk hG1
  replace hG2 := Aside0.mk hG2
  replace hsm := Aside0.mk hsm
  have HA := below_alloc (Below.refl w.heap.size w) (.cells #[.int .i64 b0, .int .i64 b1, .int .i64 b2, .int .i64 b3, .int .i64 b4, .int .i64 b5, .slice A0 l0.length c0] 24)
  have hM := blk_new w (.cells #[.int .i64 b0, .int .i64 b1, .int .i64 b2, .int .i64 b3, .int .i64 b4, .int .i64 b5, .slice A0 l0.length c0] 24)
  have hrA := Kd.C_below hr0 HA
  go_enter Tryd.func3, Tryd.ntmps3
  go_wp2_with fail
  refine (Aw.awake_calls _).mono ?_; rintro ee w1 ⟨rfl, hb1⟩
  have hM1 := blk_below hM hb1
  have hr1 := Kd.C_below hrA hb1
  have HB1 := HA.trans (hb1.mono HA.size)
  have m0 := (blk_cell hM1 0).trans rfl
  have m1 := (blk_cell hM1 1).trans rfl
  have m2 := (blk_cell hM1 2).trans rfl
  have m3 := (blk_cell hM1 3).trans rfl
  have m4 := (blk_cell hM1 4).trans rfl
  have m5 := (blk_cell hM1 5).trans rfl
  have m6 := (blk_cell hM1 6).trans rfl
  clear hr0 hM HA hrA hb1
  by_cases hL : 100 < l0.length
  · have d1 : decide ((l0.length : Int) > 100) = true := by simp; omega
    have hrr := hbig.out hL
    go_wp2_with fail
    refine (hrc.out _ hr1).mono ?_; rintro ee w2 ⟨rfl, hb2⟩
    subst hrr
    have HB2 := HB1.trans (hb2.mono HB1.size)
    go_wp2_with fail
    go_ret
    exact ⟨rfl, HB2⟩
  · have d1 : decide ((l0.length : Int) > 100) = false := by simp; omega
    clear hbig
    go_wp2_with fail
    refine (hP1.out _ hr1).mono ?_; rintro ee w2 ⟨rfl, hb2⟩
    have hM2 := blk_below hM1 hb2
    have hr2 := Kd.C_below hr1 hb2
    have HB2 := HB1.trans (hb2.mono HB1.size)
    clear m0 m1 m2 m3 m4 m5 m6 hM1 hr1 HB1 hb2 hP1
    have m0 := (blk_cell hM2 0).trans rfl
    have m1 := (blk_cell hM2 1).trans rfl
    have m2 := (blk_cell hM2 2).trans rfl
    have m3 := (blk_cell hM2 3).trans rfl
    have m4 := (blk_cell hM2 4).trans rfl
    have m5 := (blk_cell hM2 5).trans rfl
    have m6 := (blk_cell hM2 6).trans rfl
    go_wp2_with fail
    refine (hP2.out _ hr2).mono ?_; rintro ee w3 ⟨rfl, hb3⟩
    have hM3 := blk_below hM2 hb3
    have hr3 := Kd.C_below hr2 hb3
    have HB3 := HB2.trans (hb3.mono HB2.size)
    clear m0 m1 m2 m3 m4 m5 m6 hM2 hr2 HB2 hb3 hP2
    go_wp2_with fail
    refine (hG1.out _).mono ?_; rintro ee w4 ⟨v1, rfl, hR4, hb4⟩
    obtain ⟨A1, c1, rfl⟩ := Kd.R_slice hR4
    have HC4 := below_alloc hb4 (.cells #[.int .i64 g0, .int .i64 g1, .int .i64 g2, .int .i64 g3, .int .i64 g4, .int .i64 g5, .slice A1 l1.length c1] 24)
    have hM5 := blk_below hM3 HC4
    have hr5 := Kd.C_below hr3 HC4
    have HB5 := HB3.trans (HC4.mono HB3.size)
    have hX5 := blk_new w4 (.cells #[.int .i64 g0, .int .i64 g1, .int .i64 g2, .int .i64 g3, .int .i64 g4, .int .i64 g5, .slice A1 l1.length c1] 24)
    have hR5 := Kd.R_below hR4 (below_alloc (Below.refl _ _) (.cells #[.int .i64 g0, .int .i64 g1, .int .i64 g2, .int .i64 g3, .int .i64 g4, .int .i64 g5, .slice A1 l1.length c1] 24))
    obtain ⟨_, hc1, hC5⟩ := Kd.R_reads' hR5
    clear hM3 hr3 HB3 HC4 hb4 hR4 hR5 hG1
    go_wp2_with fail
    revert hM5 hr5 HB5 hX5 hC5
    generalize w4.alloc (.cells #[.int .i64 g0, .int .i64 g1, .int .i64 g2, .int .i64 g3, .int .i64 g4, .int .i64 g5, .slice A1 l1.length c1] 24) = w5
    generalize w4.heap.size = x
    intro hM5 hr5 HB5 hX5 hC5
    refine (hG2.out _).mono ?_; rintro ee w6 ⟨v2, rfl, hR6, hb6⟩
    obtain ⟨A2, c2, rfl⟩ := Kd.R_slice hR6
    have HC6 := below_alloc hb6 (.cells #[.int .i64 g0, .int .i64 g1, .int .i64 g2, .int .i64 g3, .int .i64 g4, .int .i64 g5, .slice A2 l1.length c2] 24)
    have hM7 := blk_below hM5 HC6
    have hX7 := blk_below hX5 HC6
    have hr7 := Kd.C_below hr5 HC6
    have hC7 := Kd.C_below hC5 HC6
    have HB7 := HB5.trans (HC6.mono HB5.size)
    have hY7 := blk_new w6 (.cells #[.int .i64 g0, .int .i64 g1, .int .i64 g2, .int .i64 g3, .int .i64 g4, .int .i64 g5, .slice A2 l1.length c2] 24)
    have hR7 := Kd.R_below hR6 (below_alloc (Below.refl _ _) (.cells #[.int .i64 g0, .int .i64 g1, .int .i64 g2, .int .i64 g3, .int .i64 g4, .int .i64 g5, .slice A2 l1.length c2] 24))
    obtain ⟨_, hc2, hD7⟩ := Kd.R_reads' hR7
    clear hM5 hr5 HB5 hX5 hC5 HC6 hb6 hR6 hR7 hG2
    go_wp2_with fail
    revert hM7 hX7 hr7 hC7 HB7 hY7 hD7
    generalize w6.alloc (.cells #[.int .i64 g0, .int .i64 g1, .int .i64 g2, .int .i64 g3, .int .i64 g4, .int .i64 g5, .slice A2 l1.length c2] 24) = w7
    generalize w6.heap.size = y
    intro hM7 hX7 hr7 hC7 HB7 hY7 hD7
    have m0a := (blk_cell hM7 0).trans rfl
    have m1a := (blk_cell hM7 1).trans rfl
    have m2a := (blk_cell hM7 2).trans rfl
    have m3a := (blk_cell hM7 3).trans rfl
    have m4a := (blk_cell hM7 4).trans rfl
    have m5a := (blk_cell hM7 5).trans rfl
    have m6a := (blk_cell hM7 6).trans rfl
    have x0a := (blk_cell hX7 0).trans rfl
    have x1a := (blk_cell hX7 1).trans rfl
    have x2a := (blk_cell hX7 2).trans rfl
    have x3a := (blk_cell hX7 3).trans rfl
    have x4a := (blk_cell hX7 4).trans rfl
    have x5a := (blk_cell hX7 5).trans rfl
    have x6a := (blk_cell hX7 6).trans rfl
    have y0a := (blk_cell hY7 0).trans rfl
    have y1a := (blk_cell hY7 1).trans rfl
    have y2a := (blk_cell hY7 2).trans rfl
    have y3a := (blk_cell hY7 3).trans rfl
    have y4a := (blk_cell hY7 4).trans rfl
    have y5a := (blk_cell hY7 5).trans rfl
    have y6a := (blk_cell hY7 6).trans rfl
    go_region_held3 (fun w' => w'.cell? ⟨w.heap.size, 0, none⟩ = some (.int .i64 b0) ∧ w'.cell? ⟨w.heap.size, 1, none⟩ = some (.int .i64 b1) ∧ w'.cell? ⟨w.heap.size, 2, none⟩ = some (.int .i64 b2) ∧ w'.cell? ⟨w.heap.size, 3, none⟩ = some (.int .i64 b3) ∧ w'.cell? ⟨w.heap.size, 4, none⟩ = some (.int .i64 b4) ∧ w'.cell? ⟨w.heap.size, 5, none⟩ = some (.int .i64 b5) ∧ w'.cell? ⟨w.heap.size, 6, none⟩ = some (.slice A0 l0.length c0) ∧ w'.cell? ⟨x, 0, none⟩ = some (.int .i64 g0) ∧ w'.cell? ⟨x, 1, none⟩ = some (.int .i64 g1) ∧ w'.cell? ⟨x, 2, none⟩ = some (.int .i64 g2) ∧ w'.cell? ⟨x, 3, none⟩ = some (.int .i64 g3) ∧ w'.cell? ⟨x, 4, none⟩ = some (.int .i64 g4) ∧ w'.cell? ⟨x, 5, none⟩ = some (.int .i64 g5) ∧ w'.cell? ⟨x, 6, none⟩ = some (.slice A1 l1.length c1) ∧ w'.cell? ⟨y, 0, none⟩ = some (.int .i64 g0) ∧ w'.cell? ⟨y, 1, none⟩ = some (.int .i64 g1) ∧ w'.cell? ⟨y, 2, none⟩ = some (.int .i64 g2) ∧ w'.cell? ⟨y, 3, none⟩ = some (.int .i64 g3) ∧ w'.cell? ⟨y, 4, none⟩ = some (.int .i64 g4) ∧ w'.cell? ⟨y, 5, none⟩ = some (.int .i64 g5) ∧ w'.cell? ⟨y, 6, none⟩ = some (.slice A2 l1.length c2)) (first | exact ⟨m0a, m1a, m2a, m3a, m4a, m5a, m6a, x0a, x1a, x2a, x3a, x4a, x5a, x6a, y0a, y1a, y2a, y3a, y4a, y5a, y6a⟩ | exact ⟨m0b, m1b, m2b, m3b, m4b, m5b, m6b, x0b, x1b, x2b, x3b, x4b, x5b, x6b, y0b, y1b, y2b, y3b, y4b, y5b, y6b⟩ | exact ⟨m0c, m1c, m2c, m3c, m4c, m5c, m6c, x0c, x1c, x2c, x3c, x4c, x5c, x6c, y0c, y1c, y2c, y3c, y4c, y5c, y6c⟩ | exact ⟨m0d, m1d, m2d, m3d, m4d, m5d, m6d, x0d, x1d, x2d, x3d, x4d, x5d, x6d, y0d, y1d, y2d, y3d, y4d, y5d, y6d⟩) (first | (go_at_call 8; refine (hrc.out _ (Kd.C_drew hr7)).mono ?_; rintro e w8 ⟨rfl, hb8⟩; have hM8 := blk_below (blk_drew hM7) hb8; have hX8 := blk_below (blk_drew hX7) hb8; have hY8 := blk_below (blk_drew hY7) hb8; have hr8 := Kd.C_below (Kd.C_drew hr7) hb8; have hC8 := Kd.C_below (Kd.C_drew hC7) hb8; have hD8 := Kd.C_below (Kd.C_drew hD7) hb8; have HB8 := (HB7.drew).trans (hb8.mono (HB7.drew).size); have m0b := (blk_cell hM8 0).trans rfl; have m1b := (blk_cell hM8 1).trans rfl; have m2b := (blk_cell hM8 2).trans rfl; have m3b := (blk_cell hM8 3).trans rfl; have m4b := (blk_cell hM8 4).trans rfl; have m5b := (blk_cell hM8 5).trans rfl; have m6b := (blk_cell hM8 6).trans rfl; have x0b := (blk_cell hX8 0).trans rfl; have x1b := (blk_cell hX8 1).trans rfl; have x2b := (blk_cell hX8 2).trans rfl; have x3b := (blk_cell hX8 3).trans rfl; have x4b := (blk_cell hX8 4).trans rfl; have x5b := (blk_cell hX8 5).trans rfl; have x6b := (blk_cell hX8 6).trans rfl; have y0b := (blk_cell hY8 0).trans rfl; have y1b := (blk_cell hY8 1).trans rfl; have y2b := (blk_cell hY8 2).trans rfl; have y3b := (blk_cell hY8 3).trans rfl; have y4b := (blk_cell hY8 4).trans rfl; have y5b := (blk_cell hY8 5).trans rfl; have y6b := (blk_cell hY8 6).trans rfl) | (go_at_call 13; refine (hqc.out _ hr8).mono ?_; rintro e w9 ⟨rfl, hb9⟩; have hM9 := blk_below hM8 hb9; have hX9 := blk_below hX8 hb9; have hY9 := blk_below hY8 hb9; have hr9 := Kd.C_below hr8 hb9; have hC9 := Kd.C_below hC8 hb9; have hD9 := Kd.C_below hD8 hb9; have HB9 := HB8.trans (hb9.mono HB8.size); have m0c := (blk_cell hM9 0).trans rfl; have m1c := (blk_cell hM9 1).trans rfl; have m2c := (blk_cell hM9 2).trans rfl; have m3c := (blk_cell hM9 3).trans rfl; have m4c := (blk_cell hM9 4).trans rfl; have m5c := (blk_cell hM9 5).trans rfl; have m6c := (blk_cell hM9 6).trans rfl; have x0c := (blk_cell hX9 0).trans rfl; have x1c := (blk_cell hX9 1).trans rfl; have x2c := (blk_cell hX9 2).trans rfl; have x3c := (blk_cell hX9 3).trans rfl; have x4c := (blk_cell hX9 4).trans rfl; have x5c := (blk_cell hX9 5).trans rfl; have x6c := (blk_cell hX9 6).trans rfl; have y0c := (blk_cell hY9 0).trans rfl; have y1c := (blk_cell hY9 1).trans rfl; have y2c := (blk_cell hY9 2).trans rfl; have y3c := (blk_cell hY9 3).trans rfl; have y4c := (blk_cell hY9 4).trans rfl; have y5c := (blk_cell hY9 5).trans rfl; have y6c := (blk_cell hY9 6).trans rfl) | (go_at_call 14; refine (billetlaw16_Same.calls _ g0 g1 g2 g3 g4 g5 A1 c1 l1 g0 g1 g2 g3 g4 g5 A2 c2 l1 true _ hC9 hc1 hD9 hc2 hsm.out).mono ?_; rintro e w10 ⟨rfl, hb10⟩; have hM10 := blk_below hM9 hb10; have hX10 := blk_below hX9 hb10; have hY10 := blk_below hY9 hb10; have hr10 := Kd.C_below hr9 hb10; have hC10 := Kd.C_below hC9 hb10; have hD10 := Kd.C_below hD9 hb10; have HB10 := HB9.trans (hb10.mono HB9.size); have m0d := (blk_cell hM10 0).trans rfl; have m1d := (blk_cell hM10 1).trans rfl; have m2d := (blk_cell hM10 2).trans rfl; have m3d := (blk_cell hM10 3).trans rfl; have m4d := (blk_cell hM10 4).trans rfl; have m5d := (blk_cell hM10 5).trans rfl; have m6d := (blk_cell hM10 6).trans rfl; have x0d := (blk_cell hX10 0).trans rfl; have x1d := (blk_cell hX10 1).trans rfl; have x2d := (blk_cell hX10 2).trans rfl; have x3d := (blk_cell hX10 3).trans rfl; have x4d := (blk_cell hX10 4).trans rfl; have x5d := (blk_cell hX10 5).trans rfl; have x6d := (blk_cell hX10 6).trans rfl; have y0d := (blk_cell hY10 0).trans rfl; have y1d := (blk_cell hY10 1).trans rfl; have y2d := (blk_cell hY10 2).trans rfl; have y3d := (blk_cell hY10 3).trans rfl; have y4d := (blk_cell hY10 4).trans rfl; have y5d := (blk_cell hY10 5).trans rfl; have y6d := (blk_cell hY10 6).trans rfl))
    have HBF := Aside0.mk HB10
    clear hM7 hX7 hr7 hC7 hY7 hD7
    go_wp2_with fail
    go_ret
    exact ⟨rfl, HBF.out⟩
theorem tells (b0 b1 b2 b3 b4 b5 : Int) (A0 : Option Addr) (c0 : Nat) (l0 : List S42) (s : ByteArray) (w : World) (hr0 : Kd.C k42 w A0 l0.length l0) (hc0 : l0.length ≤ c0) {P : Prop} (hV : P) (hs : s.size ≤ 140737488351232) :
    Calls Tryd.prog 3 #[.agg #[.int .i64 b0, .int .i64 b1, .int .i64 b2, .int .i64 b3, .int .i64 b4, .int .i64 b5, .slice A0 l0.length c0], .string s] w fun e w' => e = .returned (.bool true) ∧ Below w.heap.size w w' := tells_any b0 b1 b2 b3 b4 b5 A0 c0 l0 s w hr0 hc0 (by omega)
end Go.Proofs.YtdgaancbeakfdaaDoor.Mt
