/- MsgBack: the walk. -/
import Derived.Test.YtdgaancbeakfdaaDoorAw
import Derived.Test.YtdgaancbeakfdaaDoorFg
import Derived.Test.YtdgaancbeakfdaaDoorSe
import Derived.Test.YtdgaancbeakfdaaDoorKm
namespace Go.Proofs.YtdgaancbeakfdaaDoor.Mb
open Go.RowKit Go.Proofs.YtdgaancbeakfdaaDoorW.PrintWords Go.Proofs.YtdgaancbeakfdaaDoorW.PrintLast Go.Proofs.YtdgaancbeakfdaaDoor.Mo Go.Proofs.YtdgaancbeakfdaaDoor.Num Go.Proofs.YtdgaancbeakfdaaDoor.Vrd Go.Proofs.YtdgaancbeakfdaaDoor.Fth Go.Proofs.YtdgaancbeakfdaaDoor.Giv Go.Proofs.YtdgaancbeakfdaaDoor.Q Go.Proofs.YtdgaancbeakfdaaDoor.Rt Go.Proofs.YtdgaancbeakfdaaDoor.Pp Go.Proofs.YtdgaancbeakfdaaDoor.Gp Go.Proofs.YtdgaancbeakfdaaDoor.Gw Go.Proofs.YtdgaancbeakfdaaDoor.Pg Go.Proofs.YtdgaancbeakfdaaDoor.Fg
set_option linter.unusedVariables false
theorem fr_inj {F0 F1 F2 F3 F4 F5 : Int} {L : List S42} {G0 G1 G2 G3 G4 G5 : Int} {M : List S42} (hF : rightS F0 F1 F2 F3 F4 F5 L = true) (hG : rightS G0 G1 G2 G3 G4 G5 M = true) : fr (payload F0 F1 F2 F3 F4 F5 L) = fr (payload G0 G1 G2 G3 G4 G5 M) ↔ (F0 = G0 ∧ F1 = G1 ∧ F2 = G2 ∧ F3 = G3 ∧ F4 = G4 ∧ F5 = G5 ∧ L = M) := by
  constructor
  · intro h
    have h1 := Rd.get_put hF
    have h2 := Rd.get_put hG
    rw [h, h2] at h1
    simp only [Prod.mk.injEq] at h1
    obtain ⟨e0, e1, e2, e3, e4, e5, e6, _⟩ := h1
    exact ⟨e0.symm, e1.symm, e2.symm, e3.symm, e4.symm, e5.symm, e6.symm⟩
  · rintro ⟨rfl, rfl, rfl, rfl, rfl, rfl, rfl⟩; rfl
set_option maxHeartbeats 8000000 in
set_option maxRecDepth 100000 in
theorem back_any (b0 b1 b2 b3 b4 b5 : Int) (A0 : Option Addr) (c0 : Nat) (l0 : List S42) (A1 : Option Addr) (c1 : Nat) (l1 : List Int) (d0 d1 d2 d3 d4 d5 : Int) (A3 : Option Addr) (c3 : Nat) (l3 : List S42) (A4 : Option Addr) (c4 : Nat) (l4 : List Int) (w : World) (hr0 : Kd.C k42 w A0 l0.length l0) (hc0 : l0.length ≤ c0) (hr1 : Kd.C (Kd.int .i64) w A1 l1.length l1) (hc1 : l1.length ≤ c1) (hr3 : Kd.C k42 w A3 l3.length l3) (hc3 : l3.length ≤ c3) (hr4 : Kd.C (Kd.int .i64) w A4 l4.length l4) (hc4 : l4.length ≤ c4) (h0 : I64 b0) (g0 : I64 d0) (h1 : I64 b1) (g1 : I64 d1) (h2 : I64 b2) (g2 : I64 d2) (h3 : I64 b3) (g3 : I64 d3) (h4 : I64 b4) (g4 : I64 d4) (h5 : I64 b5) (g5 : I64 d5) (hl : ∀ x ∈ l1, I64 x) (hm : ∀ x ∈ l4, I64 x) :
    Calls Tryd.prog 4 #[.agg #[.int .i64 b0, .int .i64 b1, .int .i64 b2, .int .i64 b3, .int .i64 b4, .int .i64 b5, .slice A0 l0.length c0], .slice A1 l1.length c1, .agg #[.int .i64 d0, .int .i64 d1, .int .i64 d2, .int .i64 d3, .int .i64 d4, .int .i64 d5, .slice A3 l3.length c3], .slice A4 l4.length c4] w fun e w' => e = .returned (.bool true) ∧ Below w.heap.size w w' := by
  obtain ⟨kf, hF⟩ := fit_any b0 b1 b2 b3 b4 b5 l0 l1 h0 h5 hl
  obtain ⟨kg, hG⟩ := fit_any d0 d1 d2 d3 d4 d5 l3 l4 g0 g5 hm
  obtain ⟨hsr, hok⟩ := fbS_srt l1 hl
  obtain ⟨hsr', hok'⟩ := fbS_srt l4 hm
  have hrg := fit_ranges h0 h1 h2 h3 h4 h5
  have hrg' := fit_ranges g0 g1 g2 g3 g4 g5
  have hlen := fbS_len l1
  have hlen' := fbS_len l4
  generalize fbS l1 = L at *
  generalize fbS l4 = M at *
  generalize 1 + pk b0 2 = F0 at *
  generalize pk b1 3 = F1 at *
  generalize pk b2 1099511627777 = F2 at *
  generalize pk b3 1099511627777 = F3 at *
  generalize pk b4 1099511627777 = F4 at *
  generalize pk b5 2199023255552 - 1000 = F5 at *
  generalize 1 + pk d0 2 = G0 at *
  generalize pk d1 3 = G1 at *
  generalize pk d2 1099511627777 = G2 at *
  generalize pk d3 1099511627777 = G3 at *
  generalize pk d4 1099511627777 = G4 at *
  generalize pk d5 2199023255552 - 1000 = G5 at *
  have hR := right_of hrg (by omega) hsr hok
  have hR' := right_of hrg' (by omega) hsr' hok'
  have hps := payload_size hR
  obtain ⟨hs1, hs2⟩ := short hR
  have hP := fun (A : Option Addr) (c : Nat) (w : World) h1 h2 => Pp.put_yes F0 F1 F2 F3 F4 F5 A c L w h1 h2 hR
  have hP' := fun (A : Option Addr) (c : Nat) (w : World) h1 h2 => Pp.put_yes G0 G1 G2 G3 G4 G5 A c M w h1 h2 hR'
  have hgp := Rd.get_put hR
  have hinj := fr_inj hR hR'
  have hGt := fun (w : World) => get_any (fr (payload F0 F1 F2 F3 F4 F5 L)) w (by omega)
  unfold GetPost at hGt
  rw [hgp] at hGt
  obtain ⟨sb, hsb, hiff⟩ := msame_any F0 F1 F2 F3 F4 F5 L G0 G1 G2 G3 G4 G5 M (by omega)
  have hst : (fr (payload F0 F1 F2 F3 F4 F5 L) = fr (payload G0 G1 G2 G3 G4 G5 M)) ↔ sb = true := hinj.trans hiff.symm
  have hsm := msame_refl F0 F1 F2 F3 F4 F5 L (by omega)
  generalize fr (payload F0 F1 F2 F3 F4 F5 L) = s at *
  generalize fr (payload G0 G1 G2 G3 G4 G5 M) = t at *
  have hfin : ((s.toList == t.toList) == sb) = true := by
    cases sb with
    | true => simp [hst.2 rfl]
    | false =>
      have hne : s ≠ t := fun e => by have := hst.1 e; cases this
      simp [mt (Vth.toList_iff s t).1 hne]
  clear hst
  have hrc := fun (A : Option Addr) (c : Nat) (w : World) h1 h2 => right_calls F0 F1 F2 F3 F4 F5 A c L w h1 h2
  rw [hR] at hrc
  clear hsr hok hrg hR hR' hps hsr' hok' hrg' hl hm hgp hinj hiff h0 g0 h1 g1 h2 g2 h3 g3 h4 g4 h5 g5
  replace hP := Aside0.mk hP
  replace hP' := Aside0.mk hP'
  replace hF := Aside0.mk hF
  replace hG := Aside0.mk hG
  replace hGt := Aside0.mk hGt
  replace hsb := Aside0.mk hsb
  replace hsm := Aside0.mk hsm
  replace hrc := Aside0.mk hrc
  have HA := below_alloc (below_alloc (Below.refl w.heap.size w) (.cells #[.int .i64 b0, .int .i64 b1, .int .i64 b2, .int .i64 b3, .int .i64 b4, .int .i64 b5, .slice A0 l0.length c0] 24)) (.cells #[.int .i64 d0, .int .i64 d1, .int .i64 d2, .int .i64 d3, .int .i64 d4, .int .i64 d5, .slice A3 l3.length c3] 24)
  have hM := blk_alloc (blk_new w (.cells #[.int .i64 b0, .int .i64 b1, .int .i64 b2, .int .i64 b3, .int .i64 b4, .int .i64 b5, .slice A0 l0.length c0] 24)) (.cells #[.int .i64 d0, .int .i64 d1, .int .i64 d2, .int .i64 d3, .int .i64 d4, .int .i64 d5, .slice A3 l3.length c3] 24)
  have hN : ((w.alloc (.cells #[.int .i64 b0, .int .i64 b1, .int .i64 b2, .int .i64 b3, .int .i64 b4, .int .i64 b5, .slice A0 l0.length c0] 24)).alloc (.cells #[.int .i64 d0, .int .i64 d1, .int .i64 d2, .int .i64 d3, .int .i64 d4, .int .i64 d5, .slice A3 l3.length c3] 24)).heap[w.heap.size + 1]? = some (.cells #[.int .i64 d0, .int .i64 d1, .int .i64 d2, .int .i64 d3, .int .i64 d4, .int .i64 d5, .slice A3 l3.length c3] 24 (0, 0)) := by simpa using blk_new (w.alloc (.cells #[.int .i64 b0, .int .i64 b1, .int .i64 b2, .int .i64 b3, .int .i64 b4, .int .i64 b5, .slice A0 l0.length c0] 24)) (.cells #[.int .i64 d0, .int .i64 d1, .int .i64 d2, .int .i64 d3, .int .i64 d4, .int .i64 d5, .slice A3 l3.length c3] 24)
  have hrA := Kd.C_below hr0 HA
  have hqA := Kd.C_below hr1 HA
  have hrB := Kd.C_below hr3 HA
  have hqB := Kd.C_below hr4 HA
  go_enter Tryd.func4, Tryd.ntmps4
  go_wp2_with fail
  refine (Aw.awake_calls _).mono ?_; rintro ee w1 ⟨rfl, hb1⟩
  have hM1 := blk_below hM hb1
  have hN1 := blk_below hN hb1
  have hr2 := Kd.C_below hrA hb1
  have hq2 := Kd.C_below hqA hb1
  have hs3 := Kd.C_below hrB hb1
  have hq3 := Kd.C_below hqB hb1
  have HB1 := HA.trans (hb1.mono HA.size)
  have m0 := (blk_cell hM1 0).trans rfl
  have m1 := (blk_cell hM1 1).trans rfl
  have m2 := (blk_cell hM1 2).trans rfl
  have m3 := (blk_cell hM1 3).trans rfl
  have m4 := (blk_cell hM1 4).trans rfl
  have m5 := (blk_cell hM1 5).trans rfl
  have m6 := (blk_cell hM1 6).trans rfl
  clear hr0 hr1 hr3 hr4 hM hN HA hrA hqA hrB hqB hb1
  go_wp2_with fail
  refine (billetlaw16_Fit.calls kf b0 b1 b2 b3 b4 b5 A0 c0 l0 A1 c1 l1 F0 F1 F2 F3 F4 F5 L w1 hr2 hc0 hq2 hc1 hF.out).mono ?_; rintro ee w2 ⟨v6, rfl, hR2, hb2⟩
  obtain ⟨A2, c2, rfl⟩ := Kd.R_slice hR2
  have HB2 := HB1.trans (hb2.mono HB1.size)
  have HC2 := below_alloc hb2 (.cells #[.int .i64 F0, .int .i64 F1, .int .i64 F2, .int .i64 F3, .int .i64 F4, .int .i64 F5, .slice A2 L.length c2] 24)
  have hX3 := blk_new w2 (.cells #[.int .i64 F0, .int .i64 F1, .int .i64 F2, .int .i64 F3, .int .i64 F4, .int .i64 F5, .slice A2 L.length c2] 24)
  have hN3 := blk_below hN1 HC2
  have hR3 := Kd.R_below hR2 (below_alloc (Below.refl _ _) (.cells #[.int .i64 F0, .int .i64 F1, .int .i64 F2, .int .i64 F3, .int .i64 F4, .int .i64 F5, .slice A2 L.length c2] 24))
  have HB3 := below_alloc HB2 (.cells #[.int .i64 F0, .int .i64 F1, .int .i64 F2, .int .i64 F3, .int .i64 F4, .int .i64 F5, .slice A2 L.length c2] 24)
  have hs5 := Kd.C_below hs3 HC2
  have hq5 := Kd.C_below hq3 HC2
  have n0 := (blk_cell hN3 0).trans rfl
  have n1 := (blk_cell hN3 1).trans rfl
  have n2 := (blk_cell hN3 2).trans rfl
  have n3 := (blk_cell hN3 3).trans rfl
  have n4 := (blk_cell hN3 4).trans rfl
  have n5 := (blk_cell hN3 5).trans rfl
  have n6 := (blk_cell hN3 6).trans rfl
  clear m0 m1 m2 m3 m4 m5 m6 hM1 hN1 hr2 hq2 hs3 hq3 HB1 hb2 hR2 HB2 HC2 hF
  go_wp2_with fail
  obtain ⟨_, hc3', hC3⟩ := Kd.R_reads' hR3
  clear n0 n1 n2 n3 n4 n5 n6 hR3
  revert hX3 HB3 hs5 hq5 hC3 hN3
  generalize w2.alloc (.cells #[.int .i64 F0, .int .i64 F1, .int .i64 F2, .int .i64 F3, .int .i64 F4, .int .i64 F5, .slice A2 L.length c2] 24) = w3
  generalize w2.heap.size = x at *
  intro hX3 hN3 HB3 hs5 hq5 hC3
  refine (billetlaw16_Fit.calls kg d0 d1 d2 d3 d4 d5 A3 c3 l3 A4 c4 l4 G0 G1 G2 G3 G4 G5 M w3 hs5 hc3 hq5 hc4 hG.out).mono ?_; rintro ee w4 ⟨v7, rfl, hR4, hb4⟩
  obtain ⟨A5, c5, rfl⟩ := Kd.R_slice hR4
  have HB4 := HB3.trans (hb4.mono HB3.size)
  have HC4 := below_alloc hb4 (.cells #[.int .i64 G0, .int .i64 G1, .int .i64 G2, .int .i64 G3, .int .i64 G4, .int .i64 G5, .slice A5 M.length c5] 24)
  have hY5 := blk_new w4 (.cells #[.int .i64 G0, .int .i64 G1, .int .i64 G2, .int .i64 G3, .int .i64 G4, .int .i64 G5, .slice A5 M.length c5] 24)
  have hX5 := blk_below hX3 HC4
  have hR5 := Kd.R_below hR4 (below_alloc (Below.refl _ _) (.cells #[.int .i64 G0, .int .i64 G1, .int .i64 G2, .int .i64 G3, .int .i64 G4, .int .i64 G5, .slice A5 M.length c5] 24))
  have HB5 := below_alloc HB4 (.cells #[.int .i64 G0, .int .i64 G1, .int .i64 G2, .int .i64 G3, .int .i64 G4, .int .i64 G5, .slice A5 M.length c5] 24)
  have hC5 := Kd.C_below hC3 HC4
  have x0 := (blk_cell hX5 0).trans rfl
  have x1 := (blk_cell hX5 1).trans rfl
  have x2 := (blk_cell hX5 2).trans rfl
  have x3 := (blk_cell hX5 3).trans rfl
  have x4 := (blk_cell hX5 4).trans rfl
  have x5 := (blk_cell hX5 5).trans rfl
  have x6 := (blk_cell hX5 6).trans rfl
  clear hX3 HB3 hs5 hq5 hC3 hN3 hb4 hR4 HB4 HC4 hG
  go_wp2_with fail
  obtain ⟨_, hc5', hD5⟩ := Kd.R_reads' hR5
  clear x0 x1 x2 x3 x4 x5 x6 hR5
  revert hX5 HB5 hC5 hY5 hD5
  generalize w4.alloc (.cells #[.int .i64 G0, .int .i64 G1, .int .i64 G2, .int .i64 G3, .int .i64 G4, .int .i64 G5, .slice A5 M.length c5] 24) = w5
  generalize w4.heap.size = y at *
  intro hY5 hX5 HB5 hC5 hD5
  refine (hP.out A2 c2 _ hC5 hc3').mono ?_; rintro ee w6 ⟨rfl, hb6⟩
  have hX6 := blk_below hX5 hb6
  have hY6 := blk_below hY5 hb6
  have hC6 := Kd.C_below hC5 hb6
  have hD6 := Kd.C_below hD5 hb6
  have HB6 := HB5.trans (hb6.mono HB5.size)
  have y0 := (blk_cell hY6 0).trans rfl
  have y1 := (blk_cell hY6 1).trans rfl
  have y2 := (blk_cell hY6 2).trans rfl
  have y3 := (blk_cell hY6 3).trans rfl
  have y4 := (blk_cell hY6 4).trans rfl
  have y5 := (blk_cell hY6 5).trans rfl
  have y6 := (blk_cell hY6 6).trans rfl
  clear hX5 HB5 hC5 hY5 hD5 hb6 hP
  go_wp2_with fail
  refine (hP'.out A5 c5 _ hD6 hc5').mono ?_; rintro ee w7 ⟨rfl, hb7⟩
  have hX7 := blk_below hX6 hb7
  have hY7 := blk_below hY6 hb7
  have hC7 := Kd.C_below hC6 hb7
  have hD7 := Kd.C_below hD6 hb7
  have HB7 := HB6.trans (hb7.mono HB6.size)
  clear y0 y1 y2 y3 y4 y5 y6 hX6 HB6 hC6 hY6 hD6 hb7 hP'
  go_wp2_with fail
  refine (hGt.out _).mono ?_; rintro ee w8 ⟨v8, rfl, hR8, hb8⟩
  obtain ⟨A6, c6, rfl⟩ := Kd.R_slice hR8
  have HC8 := below_alloc hb8 (.cells #[.int .i64 F0, .int .i64 F1, .int .i64 F2, .int .i64 F3, .int .i64 F4, .int .i64 F5, .slice A6 L.length c6] 24)
  have hX9 := blk_below hX7 HC8
  have hY9 := blk_below hY7 HC8
  have hZ9 := blk_new w8 (.cells #[.int .i64 F0, .int .i64 F1, .int .i64 F2, .int .i64 F3, .int .i64 F4, .int .i64 F5, .slice A6 L.length c6] 24)
  have hC9 := Kd.C_below hC7 HC8
  have hD9 := Kd.C_below hD7 HC8
  have hR9 := Kd.R_below hR8 (below_alloc (Below.refl _ _) (.cells #[.int .i64 F0, .int .i64 F1, .int .i64 F2, .int .i64 F3, .int .i64 F4, .int .i64 F5, .slice A6 L.length c6] 24))
  have HB9 := HB7.trans (HC8.mono HB7.size)
  obtain ⟨_, hc9', hE9⟩ := Kd.R_reads' hR9
  clear hX7 HB7 hC7 hY7 hD7 hb8 HC8 hR8 hR9 hGt
  have x0 := (blk_cell hX9 0).trans rfl
  have x1 := (blk_cell hX9 1).trans rfl
  have x2 := (blk_cell hX9 2).trans rfl
  have x3 := (blk_cell hX9 3).trans rfl
  have x4 := (blk_cell hX9 4).trans rfl
  have x5 := (blk_cell hX9 5).trans rfl
  have x6 := (blk_cell hX9 6).trans rfl
  go_wp2_with fail
  refine (hrc.out A2 c2 _ hC9 hc3').mono ?_; rintro ee w10 ⟨rfl, hb10⟩
  clear x0 x1 x2 x3 x4 x5 x6
  have hX10 := blk_below hX9 hb10
  have hY10 := blk_below hY9 hb10
  have hZ10 := blk_below hZ9 hb10
  have hC10 := Kd.C_below hC9 hb10
  have hD10 := Kd.C_below hD9 hb10
  have hE10 := Kd.C_below hE9 hb10
  have HB10 := HB9.trans (hb10.mono HB9.size)
  clear hX9 hY9 hZ9 hC9 hD9 hE9 HB9 hb10
  have x0 := (blk_cell hX10 0).trans rfl
  have x1 := (blk_cell hX10 1).trans rfl
  have x2 := (blk_cell hX10 2).trans rfl
  have x3 := (blk_cell hX10 3).trans rfl
  have x4 := (blk_cell hX10 4).trans rfl
  have x5 := (blk_cell hX10 5).trans rfl
  have x6 := (blk_cell hX10 6).trans rfl
  have z0 := (blk_cell hZ10 0).trans rfl
  have z1 := (blk_cell hZ10 1).trans rfl
  have z2 := (blk_cell hZ10 2).trans rfl
  have z3 := (blk_cell hZ10 3).trans rfl
  have z4 := (blk_cell hZ10 4).trans rfl
  have z5 := (blk_cell hZ10 5).trans rfl
  have z6 := (blk_cell hZ10 6).trans rfl
  go_wp2_with fail
  refine (billetlaw16_Same.calls (L.length + 2) F0 F1 F2 F3 F4 F5 A6 c6 L F0 F1 F2 F3 F4 F5 A2 c2 L true _ hE10 hc9' hC10 hc3' hsm.out).mono ?_; rintro ee w11 ⟨rfl, hb11⟩
  clear x0 x1 x2 x3 x4 x5 x6 z0 z1 z2 z3 z4 z5 z6
  have hX11 := blk_below hX10 hb11
  have hY11 := blk_below hY10 hb11
  have hC11 := Kd.C_below hC10 hb11
  have hD11 := Kd.C_below hD10 hb11
  have HB11 := HB10.trans (hb11.mono HB10.size)
  clear hX10 hY10 hZ10 hC10 hD10 hE10 HB10 hb11
  have x0 := (blk_cell hX11 0).trans rfl
  have x1 := (blk_cell hX11 1).trans rfl
  have x2 := (blk_cell hX11 2).trans rfl
  have x3 := (blk_cell hX11 3).trans rfl
  have x4 := (blk_cell hX11 4).trans rfl
  have x5 := (blk_cell hX11 5).trans rfl
  have x6 := (blk_cell hX11 6).trans rfl
  have y0 := (blk_cell hY11 0).trans rfl
  have y1 := (blk_cell hY11 1).trans rfl
  have y2 := (blk_cell hY11 2).trans rfl
  have y3 := (blk_cell hY11 3).trans rfl
  have y4 := (blk_cell hY11 4).trans rfl
  have y5 := (blk_cell hY11 5).trans rfl
  have y6 := (blk_cell hY11 6).trans rfl
  go_wp2_with fail
  refine (billetlaw16_Same.calls (L.length + 2) F0 F1 F2 F3 F4 F5 A2 c2 L G0 G1 G2 G3 G4 G5 A5 c5 M sb _ hC11 hc3' hD11 hc5' hsb.out).mono ?_; rintro ee w12 ⟨rfl, hb12⟩
  have HB12 := HB11.trans (hb12.mono HB11.size)
  go_wp2_with fail
  go_ret
  exact ⟨rfl, HB12⟩
theorem back (b0 b1 b2 b3 b4 b5 : Int) (A0 : Option Addr) (c0 : Nat) (l0 : List S42) (A1 : Option Addr) (c1 : Nat) (l1 : List Int) (d0 d1 d2 d3 d4 d5 : Int) (A3 : Option Addr) (c3 : Nat) (l3 : List S42) (A4 : Option Addr) (c4 : Nat) (l4 : List Int) (w : World) (hr0 : Kd.C k42 w A0 l0.length l0) (hc0 : l0.length ≤ c0) {P R S P' R' S' : Prop} (hV0 : (Lit.int .i64 b0).wf = true ∧ (Lit.int .i64 b1).wf = true ∧ (Lit.int .i64 b2).wf = true ∧ (Lit.int .i64 b3).wf = true ∧ (Lit.int .i64 b4).wf = true ∧ (Lit.int .i64 b5).wf = true ∧ P) (hr1 : Kd.C (Kd.int .i64) w A1 l1.length l1) (hc1 : l1.length ≤ c1) (hV1 : R ∧ S ∧ ∀ x ∈ l1, (Lit.int .i64 x).wf = true)
    (hr3 : Kd.C k42 w A3 l3.length l3) (hc3 : l3.length ≤ c3) (hV3 : (Lit.int .i64 d0).wf = true ∧ (Lit.int .i64 d1).wf = true ∧ (Lit.int .i64 d2).wf = true ∧ (Lit.int .i64 d3).wf = true ∧ (Lit.int .i64 d4).wf = true ∧ (Lit.int .i64 d5).wf = true ∧ P') (hr4 : Kd.C (Kd.int .i64) w A4 l4.length l4) (hc4 : l4.length ≤ c4) (hV4 : R' ∧ S' ∧ ∀ x ∈ l4, (Lit.int .i64 x).wf = true) :
    Calls Tryd.prog 4 #[.agg #[.int .i64 b0, .int .i64 b1, .int .i64 b2, .int .i64 b3, .int .i64 b4, .int .i64 b5, .slice A0 l0.length c0], .slice A1 l1.length c1, .agg #[.int .i64 d0, .int .i64 d1, .int .i64 d2, .int .i64 d3, .int .i64 d4, .int .i64 d5, .slice A3 l3.length c3], .slice A4 l4.length c4] w fun e w' => e = .returned (.bool true) ∧ Below w.heap.size w w' :=
  back_any b0 b1 b2 b3 b4 b5 A0 c0 l0 A1 c1 l1 d0 d1 d2 d3 d4 d5 A3 c3 l3 A4 c4 l4 w hr0 hc0 hr1 hc1 hr3 hc3 hr4 hc4 (Fbk.int64_bd' hV0.1) (Fbk.int64_bd' hV3.1) (Fbk.int64_bd' hV0.2.1) (Fbk.int64_bd' hV3.2.1) (Fbk.int64_bd' hV0.2.2.1) (Fbk.int64_bd' hV3.2.2.1) (Fbk.int64_bd' hV0.2.2.2.1) (Fbk.int64_bd' hV3.2.2.2.1) (Fbk.int64_bd' hV0.2.2.2.2.1) (Fbk.int64_bd' hV3.2.2.2.2.1) (Fbk.int64_bd' hV0.2.2.2.2.2.1) (Fbk.int64_bd' hV3.2.2.2.2.2.1) (fun x hx => Fbk.int64_bd' (hV1.2.2 x hx)) (fun x hx => Fbk.int64_bd' (hV4.2.2 x hx))
end Go.Proofs.YtdgaancbeakfdaaDoor.Mb
