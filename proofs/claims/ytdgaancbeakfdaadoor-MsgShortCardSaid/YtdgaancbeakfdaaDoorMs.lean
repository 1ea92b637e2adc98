/- MsgShort: the walk. -/
import Derived.Test.YtdgaancbeakfdaaDoorAw
import Derived.Test.YtdgaancbeakfdaaDoorFg
namespace Go.Proofs.YtdgaancbeakfdaaDoor.Ms
open Go.RowKit Go.Proofs.YtdgaancbeakfdaaDoorW.PrintWords Go.Proofs.YtdgaancbeakfdaaDoorW.PrintLast Go.Proofs.YtdgaancbeakfdaaDoor.Mo Go.Proofs.YtdgaancbeakfdaaDoor.Num Go.Proofs.YtdgaancbeakfdaaDoor.Vrd Go.Proofs.YtdgaancbeakfdaaDoor.Fth Go.Proofs.YtdgaancbeakfdaaDoor.Giv Go.Proofs.YtdgaancbeakfdaaDoor.Q Go.Proofs.YtdgaancbeakfdaaDoor.Rt Go.Proofs.YtdgaancbeakfdaaDoor.Pp Go.Proofs.YtdgaancbeakfdaaDoor.Gp Go.Proofs.YtdgaancbeakfdaaDoor.Gw Go.Proofs.YtdgaancbeakfdaaDoor.Pg Go.Proofs.YtdgaancbeakfdaaDoor.Fg
set_option linter.unusedVariables false
set_option maxHeartbeats 8000000 in
set_option maxRecDepth 100000 in
theorem short_any (b0 b1 b2 b3 b4 b5 : Int) (A0 : Option Addr) (c0 : Nat) (l0 : List S42) (A1 : Option Addr) (c1 : Nat) (l1 : List Int) (w : World) (hr0 : Kd.C k42 w A0 l0.length l0) (hc0 : l0.length ≤ c0) (hr1 : Kd.C (Kd.int .i64) w A1 l1.length l1) (hc1 : l1.length ≤ c1) (h0 : I64 b0) (h1 : I64 b1) (h2 : I64 b2) (h3 : I64 b3) (h4 : I64 b4) (h5 : I64 b5) (hl : ∀ x ∈ l1, I64 x) :
    Calls Tryd.prog 6 #[.agg #[.int .i64 b0, .int .i64 b1, .int .i64 b2, .int .i64 b3, .int .i64 b4, .int .i64 b5, .slice A0 l0.length c0], .slice A1 l1.length c1] w fun e w' => e = .returned (.bool true) ∧ Below w.heap.size w w' := by
  obtain ⟨kf, hF⟩ := fit_any b0 b1 b2 b3 b4 b5 l0 l1 h0 h5 hl
  obtain ⟨hsr, hok⟩ := fbS_srt l1 hl
  have hrg := fit_ranges h0 h1 h2 h3 h4 h5
  have hlen := fbS_len l1
  generalize fbS l1 = L at *
  generalize 1 + pk b0 2 = F0 at *
  generalize pk b1 3 = F1 at *
  generalize pk b2 1099511627777 = F2 at *
  generalize pk b3 1099511627777 = F3 at *
  generalize pk b4 1099511627777 = F4 at *
  generalize pk b5 2199023255552 - 1000 = F5 at *
  have hR := right_of hrg (by omega) hsr hok
  have hps := payload_size hR
  obtain ⟨hs1, hs2⟩ := short hR
  have hP := fun (A : Option Addr) (c : Nat) (w : World) h1 h2 => Pp.put_yes F0 F1 F2 F3 F4 F5 A c L w h1 h2 hR
  have hR' : rightS F0 F1 F2 F3 F4 F5 (L.take (L.length - 1)) = true := right_of hrg (by rw [List.length_take]; omega) (List.Pairwise.sublist (List.take_sublist _ _) hsr) (fun x hx => hok x (List.mem_of_mem_take hx))
  have hP' := fun (A : Option Addr) (c : Nat) (w : World) h1 h2 => Pp.put_yes F0 F1 F2 F3 F4 F5 A c (L.take (L.length - 1)) w h1 h2 hR'
  have hsh : 0 < L.length → (fr (payload F0 F1 F2 F3 F4 F5 (L.take (L.length - 1)))).size < (fr (payload F0 F1 F2 F3 F4 F5 L)).size := fun hp => fr_mono (payload_shorter F0 F1 F2 F3 F4 F5 L (L.length - 1) (by omega) (by omega)) (by omega)
  generalize fr (payload F0 F1 F2 F3 F4 F5 L) = s at *
  generalize fr (payload F0 F1 F2 F3 F4 F5 (L.take (L.length - 1))) = t at *
  clear hsr hok hrg hR hR' hps h0 h1 h2 h3 h4 h5 hl
  replace hP := Aside0.mk hP
  replace hP' := Aside0.mk hP'
  replace hF := Aside0.mk hF
  replace hsh := Aside0.mk hsh
  have hM := blk_new w (.cells #[.int .i64 b0, .int .i64 b1, .int .i64 b2, .int .i64 b3, .int .i64 b4, .int .i64 b5, .slice A0 l0.length c0] 24)
  have HA := below_alloc (Below.refl w.heap.size w) (.cells #[.int .i64 b0, .int .i64 b1, .int .i64 b2, .int .i64 b3, .int .i64 b4, .int .i64 b5, .slice A0 l0.length c0] 24)
  have hrA := Kd.C_below hr0 HA
  have hqA := Kd.C_below hr1 HA
  go_enter Tryd.func6, Tryd.ntmps6
  go_wp2_with fail
  refine (Aw.awake_calls _).mono ?_; rintro ee w1 ⟨rfl, hb1⟩
  have hM1 := blk_below hM hb1
  have hr2 := Kd.C_below hrA hb1
  have hq2 := Kd.C_below hqA hb1
  have HB1 := HA.trans (hb1.mono HA.size)
  have m0 := (blk_cell hM1 0).trans rfl
  have m1 := (blk_cell hM1 1).trans rfl
  have m2 := (blk_cell hM1 2).trans rfl
  have m3 := (blk_cell hM1 3).trans rfl
  have m4 := (blk_cell hM1 4).trans rfl
  have m5 := (blk_cell hM1 5).trans rfl
  have m6 := (blk_cell hM1 6).trans rfl
  clear hr0 hr1 hM HA hrA hqA hb1
  go_wp2_with fail
  refine (billetlaw16_Fit.calls kf b0 b1 b2 b3 b4 b5 A0 c0 l0 A1 c1 l1 F0 F1 F2 F3 F4 F5 L w1 hr2 hc0 hq2 hc1 hF.out).mono ?_; rintro ee w2 ⟨v6, rfl, hR2, hb2⟩
  obtain ⟨A2, c2, rfl⟩ := Kd.R_slice hR2
  have HB2 := HB1.trans (hb2.mono HB1.size)
  have hsz2 := HB2.size
  have hN3 := blk_new w2 (.cells #[.int .i64 F0, .int .i64 F1, .int .i64 F2, .int .i64 F3, .int .i64 F4, .int .i64 F5, .slice A2 L.length c2] 24)
  have hR3 := Kd.R_below hR2 (below_alloc (Below.refl _ _) (.cells #[.int .i64 F0, .int .i64 F1, .int .i64 F2, .int .i64 F3, .int .i64 F4, .int .i64 F5, .slice A2 L.length c2] 24))
  have HB3 := below_alloc HB2 (.cells #[.int .i64 F0, .int .i64 F1, .int .i64 F2, .int .i64 F3, .int .i64 F4, .int .i64 F5, .slice A2 L.length c2] 24)
  have n0 := (blk_cell hN3 0).trans rfl
  have n1 := (blk_cell hN3 1).trans rfl
  have n2 := (blk_cell hN3 2).trans rfl
  have n3 := (blk_cell hN3 3).trans rfl
  have n4 := (blk_cell hN3 4).trans rfl
  have n5 := (blk_cell hN3 5).trans rfl
  have n6 := (blk_cell hN3 6).trans rfl
  clear m0 m1 m2 m3 m4 m5 m6 hM1 hr2 hq2 HB1 hb2 hR2 HB2 hF
  go_wp2_with fail
  clear n0 n1 n2 n3 n4 n5 n6
  revert hN3 hR3 HB3
  generalize w2.alloc (.cells #[.int .i64 F0, .int .i64 F1, .int .i64 F2, .int .i64 F3, .int .i64 F4, .int .i64 F5, .slice A2 L.length c2] 24) = w3
  intro hN3 hR3 HB3
  generalize w2.heap.size = n at *
  obtain ⟨_, hc3, hC3⟩ := Kd.R_reads' hR3
  refine (hP.out A2 c2 _ hC3 hc3).mono ?_; rintro ee w4 ⟨rfl, hb4⟩
  have hN4 := blk_below hN3 hb4
  have hC4 := Kd.C_below hC3 hb4
  have HB4 := HB3.trans (hb4.mono HB3.size)
  have n0 := (blk_cell hN4 0).trans rfl
  have n1 := (blk_cell hN4 1).trans rfl
  have n2 := (blk_cell hN4 2).trans rfl
  have n3 := (blk_cell hN4 3).trans rfl
  have n4 := (blk_cell hN4 4).trans rfl
  have n5 := (blk_cell hN4 5).trans rfl
  have n6 := (blk_cell hN4 6).trans rfl
  clear hN3 hR3 HB3 hb4 hC3 hP
  have q1 : decide ((s.size : Int) > 4100) = false := by simp; omega
  have q2 : decide ((s.size : Int) < 12) = false := by simp; omega
  by_cases hL : L.length = 0
  · have q3 : ((L.length : Int) == 0) = true := by simp [hL]
    replace hL := Aside0.mk hL
    go_wp2_with fail
    go_ret
    exact ⟨rfl, HB4⟩
  · have q3 : ((L.length : Int) == 0) = false := by simp; intro h; exact hL (by simp [h])
    have hN5 := blk_alloc hN4 (.cells #[.int .i64 F0, .int .i64 F1, .int .i64 F2, .int .i64 F3, .int .i64 F4, .int .i64 F5, .slice A2 L.length c2] 24)
    have hX5 := blk_new w4 (.cells #[.int .i64 F0, .int .i64 F1, .int .i64 F2, .int .i64 F3, .int .i64 F4, .int .i64 F5, .slice A2 L.length c2] 24)
    have hC5 := Kd.C_below hC4 (below_alloc (Below.refl _ _) (.cells #[.int .i64 F0, .int .i64 F1, .int .i64 F2, .int .i64 F3, .int .i64 F4, .int .i64 F5, .slice A2 L.length c2] 24))
    have HB5 := below_alloc HB4 (.cells #[.int .i64 F0, .int .i64 F1, .int .i64 F2, .int .i64 F3, .int .i64 F4, .int .i64 F5, .slice A2 L.length c2] 24)
    have hw4 := HB4.size
    have y6 := (blk_cell hN5 6).trans rfl
    have x6 := (blk_cell hX5 6).trans rfl
    have f6 := blk_frozen hX5 6
    have p1 : 0 ≤ (L.length : Int) - 1 := by omega
    have p2 : (L.length : Int) - 1 ≤ (c2 : Int) := by omega
    have p3 : ((L.length : Int) - 1).toNat = L.length - 1 := by omega
    go_wp2_with fail
    have hC6 := Kd.C_take (m := L.length - 1) (Kd.C_below hC4 (below_alloc (Below.refl _ _) (.cells #[.int .i64 F0, .int .i64 F1, .int .i64 F2, .int .i64 F3, .int .i64 F4, .int .i64 F5, .slice A2 (L.length - 1) c2] 24))) (by omega)
    have HB6 := below_alloc HB4 (.cells #[.int .i64 F0, .int .i64 F1, .int .i64 F2, .int .i64 F3, .int .i64 F4, .int .i64 F5, .slice A2 (L.length - 1) c2] 24)
    have hPx := hP'.out A2 c2 (w4.alloc (.cells #[.int .i64 F0, .int .i64 F1, .int .i64 F2, .int .i64 F3, .int .i64 F4, .int .i64 F5, .slice A2 (L.length - 1) c2] 24))
    rw [List.length_take, Nat.min_eq_left (by omega)] at hPx hC6
    refine (hPx hC6 (by omega)).mono ?_; rintro ee w8 ⟨rfl, hb8⟩
    have HB8 := HB6.trans (hb8.mono HB6.size)
    have hq := hsh.out (by omega)
    have q4 : decide ((t.size : Int) < (s.size : Int)) = true := by simp; exact hq
    go_wp2_with fail
    go_ret
    exact ⟨rfl, HB8⟩
end Go.Proofs.YtdgaancbeakfdaaDoor.Ms
