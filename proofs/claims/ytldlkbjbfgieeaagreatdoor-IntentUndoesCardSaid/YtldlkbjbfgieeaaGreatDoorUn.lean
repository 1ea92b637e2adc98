/- IntentUndoes: the walk. -/
import Derived.Test.YtldlkbjbfgieeaaGreatDoorSa
import Derived.Test.YtldlkbjbfgieeaaGreatDoorSy
import Derived.Test.YtldlkbjbfgieeaaGreatDoorLu
namespace Go.Proofs.YtldlkbjbfgieeaaGreatDoor.Un
set_option linter.unusedVariables false
set_option linter.unusedSimpArgs false
open Go.RowKit Go.Proofs.YtldlkbjbfgieeaaGreatDoorW.PrintWords Go.Proofs.YtldlkbjbfgieeaaGreatDoorW.PrintLast Go.Proofs.YtldlkbjbfgieeaaGreatDoor.Mo Go.Proofs.YtldlkbjbfgieeaaGreatDoor.Q Go.Proofs.YtldlkbjbfgieeaaGreatDoor.Rw Go.Proofs.YtldlkbjbfgieeaaGreatDoor.Cb Go.Proofs.YtldlkbjbfgieeaaGreatDoor.Ch Go.Proofs.YtldlkbjbfgieeaaGreatDoor.Ap Go.Proofs.YtldlkbjbfgieeaaGreatDoor.St Go.Proofs.YtldlkbjbfgieeaaGreatDoor.Su Go.Proofs.YtldlkbjbfgieeaaGreatDoor.Ft Go.Proofs.YtldlkbjbfgieeaaGreatDoor.Op Go.Proofs.YtldlkbjbfgieeaaGreatDoor.Of Go.Proofs.YtldlkbjbfgieeaaGreatDoor.Lk
open Go.Proofs.YtldlkbjbfgieeaaGreatDoor.La (In64 raw)
open Go.Proofs.YtldlkbjbfgieeaaGreatDoor.Ri (rightS rightO stV Small)
open Go.Proofs.YtldlkbjbfgieeaaGreatDoor.Is (apply_small opX_small opY_small rowW_C rowN_C)
open Go.Proofs.YtldlkbjbfgieeaaGreatDoor.Lu
open Go.Proofs.YtldlkbjbfgieeaaGreatDoor.Rq (rdW rdN)
set_option maxHeartbeats 16000000 in
set_option maxRecDepth 100000 in
theorem undoes_any (haw : ∀ W, Calls Tryz.prog 11 #[] W fun e w' => e = .returned (.bool true) ∧ Below W.heap.size W w') (A0 : Option Addr) (c0 : Nat) (l : List S40) (w : World) (hl : Kd.C k40 w A0 l.length l) (hc : l.length ≤ c0) (hV : ∀ x ∈ l, In64 x.f0 ∧ In64 x.f1 ∧ In64 x.f2 ∧ ∀ z ∈ x.f3, In64 z) (X : S40) (Ar : Option Addr) (cr : Nat) (hcr : X.f3.length ≤ cr) (hCr : Kd.C (Kd.int .i64) w Ar X.f3.length X.f3) (hX : In64 X.f0 ∧ In64 X.f1 ∧ In64 X.f2 ∧ ∀ z ∈ X.f3, In64 z) :
    Calls Tryz.prog 4 #[.slice A0 l.length c0, .agg #[.int .i64 X.f0, .int .i64 X.f1, .int .i64 X.f2, .slice Ar X.f3.length cr]] w fun e w' => e = .returned (.bool true) ∧ Below w.heap.size w w' := by
  have hB := below_alloc (Below.refl w.heap.size w) (rawO X.f0 X.f1 X.f2 Ar X.f3.length cr)
  have h3 := blk_new w (rawO X.f0 X.f1 X.f2 Ar X.f3.length cr)
  replace hl := Kd.C_below hl hB
  obtain ⟨b3, hg⟩ : ∃ g, g = w.heap.size := ⟨_, rfl⟩
  rw [← hg] at h3
  replace hg := Lib.hid hg
  obtain ⟨T, L, kL, e1, e2, e3, e4, e5, ho⟩ := op_right hX.1 hX.2.1 hX.2.2.1 hX.2.2.2
  have hop := Lib.hid (fun W (hB : Below w.heap.size w W) => op_any X.f0 X.f1 X.f2 Ar cr X.f3 _ T L kL W hcr (Kd.C_below hCr hB) e1 e2 e3)
  have hsx : (opX X.f0 (nine (raw X.f1 % 9)) X.f3 T).f5.size < 4294967281 := opX_small e4
  have hsy : (opY X.f0 (nine (raw X.f1 % 9)) X.f3 L).f3.size < 4294967281 := opY_small e5
  have hk1 : kOf X.f0 = 1 → (opX X.f0 (nine (raw X.f1 % 9)) X.f3 T).f0 = nine (raw X.f1 % 9) := Sa.opX_id
  have hk4 : kOf X.f0 = 4 → (opY X.f0 (nine (raw X.f1 % 9)) X.f3 L).f0 = nine (raw X.f1 % 9) := Sa.opY_id
  have hnm := (nine_of (i := raw X.f1 % 9) (Nat.mod_lt _ (by decide))).1
  generalize kOf X.f0 = k at *
  generalize opX X.f0 (nine (raw X.f1 % 9)) X.f3 T = x at *
  generalize opY X.f0 (nine (raw X.f1 % 9)) X.f3 L = y at *
  generalize nine (raw X.f1 % 9) = id at *
  generalize pk X.f2 17 = wn at *
  clear e1 e2 e3 e4 e5
  replace hnm := Lib.hid hnm
  go_enter Tryz.func4, Tryz.ntmps4
  go_wp2_with fail
  rw [← hg.out]
  revert hB; revert h3; revert hl
  generalize w.alloc (rawO X.f0 X.f1 X.f2 Ar X.f3.length cr) = wa
  intro hl h3 hB
  refine (haw _).mono ?_
  rintro e' w1 ⟨rfl, hb1⟩
  replace h3 := blk_below h3 hb1
  replace hB := below_then hB hB.size hb1
  replace hl := Kd.C_below hl hb1
  clear hb1
  go_wp2_with fail
  refine (Sa.state_any A0 c0 l w1 hl hc hV).mono ?_
  rintro e' w2 ⟨ep, ws, ns, A, B, c, d, rfl, hA, hN, hlc, hld, hrs, hsm, hep, hb2⟩
  replace h3 := blk_below h3 hb2
  replace hB := below_then hB hB.size hb2
  replace hl := Kd.C_below hl hb2
  clear hb2
  clear hl
  replace hA := Sa.rowW_C hA
  replace hN := Sa.rowN_C hN
  have h6 := blk_new w2 (.cells #[.int .i64 ep, .slice A ws.length c, .slice B ns.length d] 27)
  have qh6 := below_alloc (Below.refl w2.heap.size w2) (.cells #[.int .i64 ep, .slice A ws.length c, .slice B ns.length d] 27)
  replace h3 := blk_below h3 qh6
  replace hB := below_then hB hB.size qh6
  replace hA := Kd.C_below hA qh6
  replace hN := Kd.C_below hN qh6
  clear qh6
  have r0 := (blk_cell h3 0).trans rfl
  have r1 := (blk_cell h3 1).trans rfl
  have r2 := (blk_cell h3 2).trans rfl
  have r3 := (blk_cell h3 3).trans rfl
  go_wp2_with fail
  generalize (w2.alloc (.cells #[.int .i64 ep, .slice A ws.length c, .slice B ns.length d] 27)) = w3 at *
  generalize w2.heap.size = b6 at *
  refine (hop.out w3 hB).mono ?_
  rintro e' w4 ⟨rfl, hb4⟩
  clear r0 r1 r2 r3
  replace h3 := blk_below h3 hb4
  replace hB := below_then hB hB.size hb4
  replace hA := Kd.C_below hA hb4
  replace hN := Kd.C_below hN hb4
  replace h6 := blk_below h6 hb4
  clear hb4
  clear h3
  have h7 := blk_new w4 (.cells #[.int .i64 k, .string x.f0, .int .i64 x.f1, .int .i64 x.f2, .int .i64 x.f3, .int .i64 x.f4, .string x.f5, .string y.f0, .int .i64 y.f1, .int .i64 y.f2, .string y.f3, .bool y.f4, .string id, .int .i64 wn] 36)
  have qh7 := below_alloc (Below.refl w4.heap.size w4) (.cells #[.int .i64 k, .string x.f0, .int .i64 x.f1, .int .i64 x.f2, .int .i64 x.f3, .int .i64 x.f4, .string x.f5, .string y.f0, .int .i64 y.f1, .int .i64 y.f2, .string y.f3, .bool y.f4, .string id, .int .i64 wn] 36)
  replace hB := below_then hB hB.size qh7
  replace hA := Kd.C_below hA qh7
  replace hN := Kd.C_below hN qh7
  replace h6 := blk_below h6 qh7
  clear qh7
  have s0 := (blk_cell h6 0).trans rfl
  have s1 := (blk_cell h6 1).trans rfl
  have s2 := (blk_cell h6 2).trans rfl
  have o0 := (blk_cell h7 0).trans rfl
  have o1 := (blk_cell h7 1).trans rfl
  have o2 := (blk_cell h7 2).trans rfl
  have o3 := (blk_cell h7 3).trans rfl
  have o4 := (blk_cell h7 4).trans rfl
  have o5 := (blk_cell h7 5).trans rfl
  have o6 := (blk_cell h7 6).trans rfl
  have o7 := (blk_cell h7 7).trans rfl
  have o8 := (blk_cell h7 8).trans rfl
  have o9 := (blk_cell h7 9).trans rfl
  have o10 := (blk_cell h7 10).trans rfl
  have o11 := (blk_cell h7 11).trans rfl
  have o12 := (blk_cell h7 12).trans rfl
  have o13 := (blk_cell h7 13).trans rfl
  go_wp2_with fail
  generalize (w4.alloc (.cells #[.int .i64 k, .string x.f0, .int .i64 x.f1, .int .i64 x.f2, .int .i64 x.f3, .int .i64 x.f4, .string x.f5, .string y.f0, .int .i64 y.f1, .int .i64 y.f2, .string y.f3, .bool y.f4, .string id, .int .i64 wn] 36)) = w5 at *
  generalize w4.heap.size = b7 at *
  obtain ⟨T, hT⟩ : ∃ Z_, Z_ = applyS ep ws ns k x y id wn := ⟨_, rfl⟩
  have hap := apply_any ep A B c d ws ns k x y id wn w5 hA hlc hN hld hsm hsx hsy
  rw [← hT] at hap
  have hsmT := apply_small (e := ep) (k := k) (id := id) (want := wn) hsm hsx hsy
  rw [← hT] at hsmT
  replace hT := Lib.hid hT
  refine (hap).mono ?_
  rintro e' w6 ⟨AT, BT, rfl, hAT, hBT, hbT⟩
  clear s0 s1 s2 o0 o1 o2 o3 o4 o5 o6 o7 o8 o9 o10 o11 o12 o13
  replace hB := below_then hB hB.size hbT
  replace hA := Kd.C_below hA hbT
  replace hN := Kd.C_below hN hbT
  replace h6 := blk_below h6 hbT
  replace h7 := blk_below h7 hbT
  clear hbT
  clear hap
  replace hAT := rowW_C hAT
  replace hBT := rowN_C hBT
  have hlk := ap_look hrs ho hk1 hk4 (by omega : ep < 1099511627776)
  rw [← hT.out] at hlk
  obtain ⟨eT, dT⟩ := hlk
  replace eT := Lib.hid eT
  replace dT := Lib.hid dT
  have h8 := blk_new w6 (.cells #[.int .i64 T.1, .slice AT T.2.1.length T.2.1.length, .slice BT T.2.2.1.length T.2.2.1.length] 27)
  have qh8 := below_alloc (Below.refl w6.heap.size w6) (.cells #[.int .i64 T.1, .slice AT T.2.1.length T.2.1.length, .slice BT T.2.2.1.length T.2.2.1.length] 27)
  replace hB := below_then hB hB.size qh8
  replace hA := Kd.C_below hA qh8
  replace hN := Kd.C_below hN qh8
  replace h6 := blk_below h6 qh8
  replace h7 := blk_below h7 qh8
  replace hAT := Kd.C_below hAT qh8
  replace hBT := Kd.C_below hBT qh8
  clear qh8
  go_upto_if 29 with fail
  generalize (w6.alloc (.cells #[.int .i64 T.1, .slice AT T.2.1.length T.2.1.length, .slice BT T.2.2.1.length T.2.2.1.length] 27)) = w7 at *
  generalize w6.heap.size = b8 at *
  by_cases h0 : T.2.2.2 = 0
  · replace dT := dT.out h0
    have b0 : (T.2.2.2 != 0) = false := by rw [h0]; rfl
    have hkr := op_range ho
    have hee := dT.ep
    replace dT := Lib.hid dT
    have h00 := eT.out.symm.trans h0
    have g10 := blk_new w7 (.cells #[.int .i64 0, .string ⟨#[]⟩, .int .i64 0, .int .i64 0, .int .i64 0, .int .i64 0, .string ⟨#[]⟩, .string ⟨#[]⟩, .int .i64 0, .int .i64 0, .string ⟨#[]⟩, .bool false, .string id, .int .i64 0] 36)
    have q10 := below_alloc (Below.refl w7.heap.size w7) (.cells #[.int .i64 0, .string ⟨#[]⟩, .int .i64 0, .int .i64 0, .int .i64 0, .int .i64 0, .string ⟨#[]⟩, .string ⟨#[]⟩, .int .i64 0, .int .i64 0, .string ⟨#[]⟩, .bool false, .string id, .int .i64 0] 36)
    obtain ⟨b10, hb10⟩ : ∃ b, b = w7.heap.size := ⟨_, rfl⟩
    have hge := Lib.hid (show w7.heap.size ≤ b10 by omega)
    rw [← hb10] at g10
    have o12 := (blk_cell h7 12).trans rfl
    replace hb10 := Lib.hid hb10
    replace h0 := Lib.hid h0
    by_cases hk8 : k = 8
    · subst hk8
      rw [if_pos rfl] at hee
      have o0 := (blk_cell (blk_below h7 q10) 0).trans rfl
      have p0 := (blk_cell (blk_below h8 q10) 0).trans rfl
      have s0 := (blk_cell (blk_below h6 q10) 0).trans rfl
      have hv3 := (rightS_iff.1 hrs).1.1
      have c2 : decide (T.1 = ep + 1) = true := decide_eq_true hee
      have c3 : (T.1 == ep + 1) = true := by rw [hee]; exact beq_self_eq_true _
      have c4 : wrap64 (ep + 1) = ep + 1 := by unfold wrap64; omega
      clear hee hv3 h00
      go_wp2_with fail
      go_ret
      exact ⟨rfl, below_then hB hB.size q10⟩
    · replace hee := Lib.hid hee
      have hlaw := undo_law hrs (by omega) ho hk8 hnm.out hk1 hk4 hT.out h0.out
      replace hlaw := Lib.hid hlaw
      have hur := Lib.hid (undo_right (x := x) (y := y) (want := wn) hrs hkr hk8 hnm.out h00)
      have hrT : rightS T.1 T.2.1 T.2.2.1 = true := by have := (apply_stays (e := ep) (ws := ws) (ns := ns) (k := k) (x := x) (y := y) (id := id) (want := wn)).1; rw [← hT.out] at this; exact this h0.out
      have hri := rightS_iff.1 hrs
      replace hep := Lib.hid hep
      replace hrT := Lib.hid hrT
      replace h00 := Lib.hid h00
      replace hri := Lib.hid hri
      have o0 := (blk_cell (blk_below h7 q10) 0).trans rfl
      go_upto_block 0 with fail
      rw [← hb10.out]
      generalize w7.alloc (.cells #[.int .i64 0, .string ⟨#[]⟩, .int .i64 0, .int .i64 0, .int .i64 0, .int .i64 0, .string ⟨#[]⟩, .string ⟨#[]⟩, .int .i64 0, .int .i64 0, .string ⟨#[]⟩, .bool false, .string id, .int .i64 0] 36) = w8 at *
      clear o0 o12 b0
      go_cut [] (fun wx => Below w7.heap.size w7 wx ∧ wx.heap[b10]? = some (opC' (bK k) (bX k (St.look fw ws id)) (bY k (St.look fn ns id)) id (bV k (St.look fw ws id))))
      case first =>
        rcases (show k = 1 ∨ k = 2 ∨ k = 3 ∨ k = 4 ∨ k = 5 ∨ k = 6 ∨ k = 7 from by omega) with rfl | rfl | rfl | rfl | rfl | rfl | rfl
        · have y0 := (blk_cell g10 0).trans rfl
          have z0 := blk_frozen g10 0
          go_wp2_with fail
          go_meet
          exact ⟨q10.setCell (p := ⟨b10, 0, none⟩) hge.out _, blk_put g10 0 (.int .i64 3) (cs' := #[.int .i64 3, .string ⟨#[]⟩, .int .i64 0, .int .i64 0, .int .i64 0, .int .i64 0, .string ⟨#[]⟩, .string ⟨#[]⟩, .int .i64 0, .int .i64 0, .string ⟨#[]⟩, .bool false, .string id, .int .i64 0]) rfl⟩
        · have hlk : (St.look fw ws id).isSome = true := by
            cases h : (St.look fw ws id).isSome with
            | true => rfl
            | false => have := h00.out; rw [h] at this; exact absurd this (by show ¬ (122 : Int) = 0; decide)
          obtain ⟨hp, hpn, hpl⟩ := found zW hri.out.2.2.2.1.1 hlk
          have hpos : ∀ i, i < ws.length → (ws.getD i zW).f0 = id → cnt fw ws id = i := fun i hi h => (Rx.pos_of (z := zW) hri.out.2.2.2.1.1 hi h).1
          generalize cnt fw ws id = p at *
          clear hlk
          replace hpl := Lib.hid hpl
          replace hpos := Lib.hid hpos
          replace hpn := Lib.hid hpn
          have y0 := (blk_cell g10 0).trans rfl
          have z0 := blk_frozen g10 0
          have g1 := blk_put g10 0 (.int .i64 2) (cs' := #[.int .i64 2, .string ⟨#[]⟩, .int .i64 0, .int .i64 0, .int .i64 0, .int .i64 0, .string ⟨#[]⟩, .string ⟨#[]⟩, .int .i64 0, .int .i64 0, .string ⟨#[]⟩, .bool false, .string id, .int .i64 0]) rfl
          have q1 := q10.setCell (p := ⟨b10, 0, none⟩) hge.out (.int .i64 2)
          go_wp2_with fail
          clear y0 z0 g10 q10
          generalize w8.setCell ⟨b10, 0, none⟩ (.int .i64 2) = w9 at *
          have hF := Aside0.mk (And.intro q1 g1)
          clear q1 g1
          go_loopg [11] ws.length (fun kx v_ wr => ∃ i : Nat, v_ = .int .i64 (i : Int) ∧ i + kx = ws.length ∧ ∃ r, r = (if p < i then ws.getD p zW else zW) ∧ Aside0 (Below w7.heap.size w7 wr ∧ wr.heap[b10]? = some (.cells #[.int .i64 2, .string ⟨#[]⟩, .int .i64 0, .int .i64 0, .int .i64 0, .int .i64 0, .string ⟨#[]⟩, .string ⟨#[]⟩, .int .i64 0, .int .i64 0, .string ⟨#[]⟩, .bool false, .string id, .int .i64 r.f1] 36 (0, 0))))
          case atStart => exact ⟨0, rfl, by omega, zW, by rw [if_neg (Nat.not_lt_zero p)], hF⟩
          case round =>
            clear hF
            obtain ⟨i, rfl, hik, r, hr, hF⟩ := hrel
            replace hr := Lib.hid hr
            have s1 := (blk_cell (blk_below h6 hF.out.1) 1).trans rfl
            have o12 := (blk_cell (blk_below h7 hF.out.1) 12).trans rfl
            by_cases hi : i < ws.length
            · obtain ⟨m, rfl⟩ : ∃ m, gk = m + 1 := ⟨gk - 1, by omega⟩
              have d1 : decide ((i : Int) < (ws.length : Int)) = true := decide_eq_true (by omega)
              obtain ⟨ad, eA, p0, p1, p2, p3, p4, p5⟩ := at_T32 (Kd.C_below hA hF.out.1) (i : Int) (by omega) (by omega)
              subst eA
              rw [rdW, Int.toNat_natCast] at p0
              rw [rdW, Int.toNat_natCast] at p1
              rw [rdW, Int.toNat_natCast] at p2
              rw [rdW, Int.toNat_natCast] at p3
              rw [rdW, Int.toNat_natCast] at p4
              rw [rdW, Int.toNat_natCast] at p5
              obtain ⟨v, hv⟩ : ∃ v, v = ws.getD i zW := ⟨_, rfl⟩
              rw [← hv] at p0
              rw [← hv] at p1
              rw [← hv] at p2
              rw [← hv] at p3
              rw [← hv] at p4
              rw [← hv] at p5
              replace hv := Lib.hid hv
              have pi : (0 ≤ (i : Int)) = True := eq_true (by omega)
              have qi : ((i : Int) < (ws.length : Int)) = True := eq_true (by omega)
              go_wp2_with fail
              by_cases h : v.f0 = id
              · have e1 := Rx.str_eq h
                have hip : p = i := hpos.out i hi (by rw [← hv.out]; exact h)
                clear h
                refine start_ (n := 9) (S := fun w' => w'.cell? ⟨b6, 1, none⟩ = some (.slice (some ad) ws.length c) ∧ w'.cell? (ad.add (i * 6)) = some (.string v.f0) ∧ w'.cell? ⟨b7, 12, none⟩ = some (.string id)) (ds := []) (bt 9 0) (by kernel_rfl) rfl (by kernel_rfl) (⟨s1, p0, o12⟩) (fun hHeld => ?_)
                replace hF := Aside0.mk (And.intro (below_then hF.out.1 hF.out.1.size (below_drew (Below.refl _ _))) (blk_drew hF.out.2))
                generalize wr.drew = wd at *
                refine py 0 71 (bt 9 1) rfl rfl (h := ?_)
                refine ty 1 72 (bt 9 3) rfl rfl hHeld (h := ?_)
                refine py 2 73 (bt 9 7) rfl rfl (h := ?_)
                refine py 3 74 (bt 9 15) rfl rfl (h := ?_)
                refine py 4 75 (bt 9 31) rfl rfl (h := ?_)
                refine ty 5 76 (bt 9 63) rfl rfl hHeld (h := ?_)
                refine py 6 77 (bt 9 127) rfl rfl (h := ?_)
                refine ty 7 78 (bt 9 255) rfl rfl hHeld (h := ?_)
                refine py 8 79 (bt 9 511) rfl rfl (h := ?_)
                refine done_ (by kernel_rfl) ?_
                have s1 : wd.cell? ⟨b6, 1, none⟩ = some (.slice (some ad) ws.length c) := (blk_cell (blk_below h6 hF.out.1) 1).trans rfl
                have y13 := (blk_cell hF.out.2 13).trans rfl
                have z13 := blk_frozen hF.out.2 13
                obtain ⟨ad2, eA, c0, c1, c2, c3, c4, c5⟩ := at_T32 (Kd.C_below hA hF.out.1) (i : Int) (by omega) (by omega)
                injection eA with eA
                subst eA
                rw [rdW, Int.toNat_natCast, ← hv.out] at c0
                rw [rdW, Int.toNat_natCast, ← hv.out] at c1
                rw [rdW, Int.toNat_natCast, ← hv.out] at c2
                rw [rdW, Int.toNat_natCast, ← hv.out] at c3
                rw [rdW, Int.toNat_natCast, ← hv.out] at c4
                rw [rdW, Int.toNat_natCast, ← hv.out] at c5
                have g0 := hF.out.2
                have q0 := hF.out.1
                have g1 := blk_put g0 13 (.int .i64 v.f1) (cs' := #[.int .i64 2, .string ⟨#[]⟩, .int .i64 0, .int .i64 0, .int .i64 0, .int .i64 0, .string ⟨#[]⟩, .string ⟨#[]⟩, .int .i64 0, .int .i64 0, .string ⟨#[]⟩, .bool false, .string id, .int .i64 v.f1]) rfl
                have q1 := q0.setCell (p := ⟨b10, 13, none⟩) hge.out (.int .i64 v.f1)
                have hF2 := Aside0.mk (And.intro q1 g1)
                clear q0 g0 q1 g1
                go_wp2_with fail
                go_roundg m
                case measure => omega
                case rel => exact ⟨i + 1, by first | rfl | exact congrArg (Value.int .i64) (by have := hri.out.2.1; have := hri.out.2.2.1; (try simp only [IntKind.wrap_i64]); (try unfold wrap64); omega), by omega, v, by rw [if_pos (by omega), hip]; exact hv.out, hF2⟩
              · have e1 := Rx.str_ne h
                have hne : ¬ i = p := fun e => h (by rw [hv.out, e]; exact hpn.out)
                clear h
                refine start_ (n := 9) (S := fun w' => w'.cell? ⟨b6, 1, none⟩ = some (.slice (some ad) ws.length c) ∧ w'.cell? (ad.add (i * 6)) = some (.string v.f0) ∧ w'.cell? ⟨b7, 12, none⟩ = some (.string id)) (ds := []) (bt 9 0) (by kernel_rfl) rfl (by kernel_rfl) (⟨s1, p0, o12⟩) (fun hHeld => ?_)
                replace hF := Aside0.mk (And.intro (below_then hF.out.1 hF.out.1.size (below_drew (Below.refl _ _))) (blk_drew hF.out.2))
                generalize wr.drew = wd at *
                refine py 0 71 (bt 9 1) rfl rfl (h := ?_)
                refine ty 1 72 (bt 9 3) rfl rfl hHeld (h := ?_)
                refine py 2 73 (bt 9 7) rfl rfl (h := ?_)
                refine py 3 74 (bt 9 15) rfl rfl (h := ?_)
                refine py 4 75 (bt 9 31) rfl rfl (h := ?_)
                refine ty 5 76 (bt 9 63) rfl rfl hHeld (h := ?_)
                refine py 6 77 (bt 9 127) rfl rfl (h := ?_)
                refine ty 7 78 (bt 9 255) rfl rfl hHeld (h := ?_)
                refine py 8 79 (bt 9 511) rfl rfl (h := ?_)
                refine done_ (by kernel_rfl) ?_
                go_wp2_with fail
                go_roundg m
                case measure => omega
                case rel => exact ⟨i + 1, by first | rfl | exact congrArg (Value.int .i64) (by have := hri.out.2.1; have := hri.out.2.2.1; (try simp only [IntKind.wrap_i64]); (try unfold wrap64); omega), by omega, r, (by rw [hr.out]; rcases Nat.lt_or_ge p i with q | q; exact (if_pos q).trans (if_pos (by omega)).symm; exact (if_neg (by omega)).trans (if_neg (by omega)).symm), hF⟩
            · have d1 : decide ((i : Int) < (ws.length : Int)) = false := decide_eq_false (by omega)
              have hr2 := hr.out
              rw [if_pos (by omega)] at hr2
              clear hr
              subst hr2
              go_wp2_with fail
              go_meet
              rw [hpl.out]
              exact ⟨hF.out.1, hF.out.2⟩
        · have hlk : (St.look fw ws id).isSome = true := by
            cases h : (St.look fw ws id).isSome with
            | true => rfl
            | false => have := h00.out; rw [h] at this; exact absurd this (by show ¬ (122 : Int) = 0; decide)
          obtain ⟨hp, hpn, hpl⟩ := found zW hri.out.2.2.2.1.1 hlk
          have hpos : ∀ i, i < ws.length → (ws.getD i zW).f0 = id → cnt fw ws id = i := fun i hi h => (Rx.pos_of (z := zW) hri.out.2.2.2.1.1 hi h).1
          generalize cnt fw ws id = p at *
          clear hlk
          replace hpl := Lib.hid hpl
          replace hpos := Lib.hid hpos
          replace hpn := Lib.hid hpn
          have y0 := (blk_cell g10 0).trans rfl
          have z0 := blk_frozen g10 0
          have g1 := blk_put g10 0 (.int .i64 1) (cs' := #[.int .i64 1, .string ⟨#[]⟩, .int .i64 0, .int .i64 0, .int .i64 0, .int .i64 0, .string ⟨#[]⟩, .string ⟨#[]⟩, .int .i64 0, .int .i64 0, .string ⟨#[]⟩, .bool false, .string id, .int .i64 0]) rfl
          have q1 := q10.setCell (p := ⟨b10, 0, none⟩) hge.out (.int .i64 1)
          go_wp2_with fail
          clear y0 z0 g10 q10
          generalize w8.setCell ⟨b10, 0, none⟩ (.int .i64 1) = w9 at *
          have hF := Aside0.mk (And.intro q1 g1)
          clear q1 g1
          go_loopg [12] ws.length (fun kx v_ wr => ∃ i : Nat, v_ = .int .i64 (i : Int) ∧ i + kx = ws.length ∧ ∃ r, r = (if p < i then ws.getD p zW else zW) ∧ Aside0 (Below w7.heap.size w7 wr ∧ wr.heap[b10]? = some (.cells #[.int .i64 1, .string r.f0, .int .i64 r.f1, .int .i64 r.f2, .int .i64 r.f3, .int .i64 r.f4, .string r.f5, .string ⟨#[]⟩, .int .i64 0, .int .i64 0, .string ⟨#[]⟩, .bool false, .string id, .int .i64 0] 36 (0, 0))))
          case atStart => exact ⟨0, rfl, by omega, zW, by rw [if_neg (Nat.not_lt_zero p)], hF⟩
          case round =>
            clear hF
            obtain ⟨i, rfl, hik, r, hr, hF⟩ := hrel
            replace hr := Lib.hid hr
            have s1 := (blk_cell (blk_below h6 hF.out.1) 1).trans rfl
            have o12 := (blk_cell (blk_below h7 hF.out.1) 12).trans rfl
            by_cases hi : i < ws.length
            · obtain ⟨m, rfl⟩ : ∃ m, gk = m + 1 := ⟨gk - 1, by omega⟩
              have d1 : decide ((i : Int) < (ws.length : Int)) = true := decide_eq_true (by omega)
              obtain ⟨ad, eA, p0, p1, p2, p3, p4, p5⟩ := at_T32 (Kd.C_below hA hF.out.1) (i : Int) (by omega) (by omega)
              subst eA
              rw [rdW, Int.toNat_natCast] at p0
              rw [rdW, Int.toNat_natCast] at p1
              rw [rdW, Int.toNat_natCast] at p2
              rw [rdW, Int.toNat_natCast] at p3
              rw [rdW, Int.toNat_natCast] at p4
              rw [rdW, Int.toNat_natCast] at p5
              obtain ⟨v, hv⟩ : ∃ v, v = ws.getD i zW := ⟨_, rfl⟩
              rw [← hv] at p0
              rw [← hv] at p1
              rw [← hv] at p2
              rw [← hv] at p3
              rw [← hv] at p4
              rw [← hv] at p5
              replace hv := Lib.hid hv
              have pi : (0 ≤ (i : Int)) = True := eq_true (by omega)
              have qi : ((i : Int) < (ws.length : Int)) = True := eq_true (by omega)
              go_wp2_with fail
              by_cases h : v.f0 = id
              · have e1 := Rx.str_eq h
                have hip : p = i := hpos.out i hi (by rw [← hv.out]; exact h)
                clear h
                refine start_ (n := 9) (S := fun w' => w'.cell? ⟨b6, 1, none⟩ = some (.slice (some ad) ws.length c) ∧ w'.cell? (ad.add (i * 6)) = some (.string v.f0) ∧ w'.cell? ⟨b7, 12, none⟩ = some (.string id)) (ds := []) (bt 9 0) (by kernel_rfl) rfl (by kernel_rfl) (⟨s1, p0, o12⟩) (fun hHeld => ?_)
                replace hF := Aside0.mk (And.intro (below_then hF.out.1 hF.out.1.size (below_drew (Below.refl _ _))) (blk_drew hF.out.2))
                generalize wr.drew = wd at *
                refine py 0 97 (bt 9 1) rfl rfl (h := ?_)
                refine ty 1 98 (bt 9 3) rfl rfl hHeld (h := ?_)
                refine py 2 99 (bt 9 7) rfl rfl (h := ?_)
                refine py 3 100 (bt 9 15) rfl rfl (h := ?_)
                refine py 4 101 (bt 9 31) rfl rfl (h := ?_)
                refine ty 5 102 (bt 9 63) rfl rfl hHeld (h := ?_)
                refine py 6 103 (bt 9 127) rfl rfl (h := ?_)
                refine ty 7 104 (bt 9 255) rfl rfl hHeld (h := ?_)
                refine py 8 105 (bt 9 511) rfl rfl (h := ?_)
                refine done_ (by kernel_rfl) ?_
                have s1 : wd.cell? ⟨b6, 1, none⟩ = some (.slice (some ad) ws.length c) := (blk_cell (blk_below h6 hF.out.1) 1).trans rfl
                have y1 := (blk_cell hF.out.2 1).trans rfl
                have z1 := blk_frozen hF.out.2 1
                have y2 := (blk_cell hF.out.2 2).trans rfl
                have z2 := blk_frozen hF.out.2 2
                have y3 := (blk_cell hF.out.2 3).trans rfl
                have z3 := blk_frozen hF.out.2 3
                have y4 := (blk_cell hF.out.2 4).trans rfl
                have z4 := blk_frozen hF.out.2 4
                have y5 := (blk_cell hF.out.2 5).trans rfl
                have z5 := blk_frozen hF.out.2 5
                have y6 := (blk_cell hF.out.2 6).trans rfl
                have z6 := blk_frozen hF.out.2 6
                obtain ⟨ad2, eA, c0, c1, c2, c3, c4, c5⟩ := at_T32 (Kd.C_below hA hF.out.1) (i : Int) (by omega) (by omega)
                injection eA with eA
                subst eA
                rw [rdW, Int.toNat_natCast, ← hv.out] at c0
                rw [rdW, Int.toNat_natCast, ← hv.out] at c1
                rw [rdW, Int.toNat_natCast, ← hv.out] at c2
                rw [rdW, Int.toNat_natCast, ← hv.out] at c3
                rw [rdW, Int.toNat_natCast, ← hv.out] at c4
                rw [rdW, Int.toNat_natCast, ← hv.out] at c5
                have g0 := hF.out.2
                have q0 := hF.out.1
                have g1 := blk_put g0 1 (.string v.f0) (cs' := #[.int .i64 1, .string v.f0, .int .i64 r.f1, .int .i64 r.f2, .int .i64 r.f3, .int .i64 r.f4, .string r.f5, .string ⟨#[]⟩, .int .i64 0, .int .i64 0, .string ⟨#[]⟩, .bool false, .string id, .int .i64 0]) rfl
                have q1 := q0.setCell (p := ⟨b10, 1, none⟩) hge.out (.string v.f0)
                have g2 := blk_put g1 2 (.int .i64 v.f1) (cs' := #[.int .i64 1, .string v.f0, .int .i64 v.f1, .int .i64 r.f2, .int .i64 r.f3, .int .i64 r.f4, .string r.f5, .string ⟨#[]⟩, .int .i64 0, .int .i64 0, .string ⟨#[]⟩, .bool false, .string id, .int .i64 0]) rfl
                have q2 := q1.setCell (p := ⟨b10, 2, none⟩) hge.out (.int .i64 v.f1)
                have g3 := blk_put g2 3 (.int .i64 v.f2) (cs' := #[.int .i64 1, .string v.f0, .int .i64 v.f1, .int .i64 v.f2, .int .i64 r.f3, .int .i64 r.f4, .string r.f5, .string ⟨#[]⟩, .int .i64 0, .int .i64 0, .string ⟨#[]⟩, .bool false, .string id, .int .i64 0]) rfl
                have q3 := q2.setCell (p := ⟨b10, 3, none⟩) hge.out (.int .i64 v.f2)
                have g4 := blk_put g3 4 (.int .i64 v.f3) (cs' := #[.int .i64 1, .string v.f0, .int .i64 v.f1, .int .i64 v.f2, .int .i64 v.f3, .int .i64 r.f4, .string r.f5, .string ⟨#[]⟩, .int .i64 0, .int .i64 0, .string ⟨#[]⟩, .bool false, .string id, .int .i64 0]) rfl
                have q4 := q3.setCell (p := ⟨b10, 4, none⟩) hge.out (.int .i64 v.f3)
                have g5 := blk_put g4 5 (.int .i64 v.f4) (cs' := #[.int .i64 1, .string v.f0, .int .i64 v.f1, .int .i64 v.f2, .int .i64 v.f3, .int .i64 v.f4, .string r.f5, .string ⟨#[]⟩, .int .i64 0, .int .i64 0, .string ⟨#[]⟩, .bool false, .string id, .int .i64 0]) rfl
                have q5 := q4.setCell (p := ⟨b10, 5, none⟩) hge.out (.int .i64 v.f4)
                have g6 := blk_put g5 6 (.string v.f5) (cs' := #[.int .i64 1, .string v.f0, .int .i64 v.f1, .int .i64 v.f2, .int .i64 v.f3, .int .i64 v.f4, .string v.f5, .string ⟨#[]⟩, .int .i64 0, .int .i64 0, .string ⟨#[]⟩, .bool false, .string id, .int .i64 0]) rfl
                have q6 := q5.setCell (p := ⟨b10, 6, none⟩) hge.out (.string v.f5)
                have hF2 := Aside0.mk (And.intro q6 g6)
                clear q0 g0 q1 g1 q2 g2 q3 g3 q4 g4 q5 g5 q6 g6
                go_wp2_with fail
                go_roundg m
                case measure => omega
                case rel => exact ⟨i + 1, by first | rfl | exact congrArg (Value.int .i64) (by have := hri.out.2.1; have := hri.out.2.2.1; (try simp only [IntKind.wrap_i64]); (try unfold wrap64); omega), by omega, v, by rw [if_pos (by omega), hip]; exact hv.out, hF2⟩
              · have e1 := Rx.str_ne h
                have hne : ¬ i = p := fun e => h (by rw [hv.out, e]; exact hpn.out)
                clear h
                refine start_ (n := 9) (S := fun w' => w'.cell? ⟨b6, 1, none⟩ = some (.slice (some ad) ws.length c) ∧ w'.cell? (ad.add (i * 6)) = some (.string v.f0) ∧ w'.cell? ⟨b7, 12, none⟩ = some (.string id)) (ds := []) (bt 9 0) (by kernel_rfl) rfl (by kernel_rfl) (⟨s1, p0, o12⟩) (fun hHeld => ?_)
                replace hF := Aside0.mk (And.intro (below_then hF.out.1 hF.out.1.size (below_drew (Below.refl _ _))) (blk_drew hF.out.2))
                generalize wr.drew = wd at *
                refine py 0 97 (bt 9 1) rfl rfl (h := ?_)
                refine ty 1 98 (bt 9 3) rfl rfl hHeld (h := ?_)
                refine py 2 99 (bt 9 7) rfl rfl (h := ?_)
                refine py 3 100 (bt 9 15) rfl rfl (h := ?_)
                refine py 4 101 (bt 9 31) rfl rfl (h := ?_)
                refine ty 5 102 (bt 9 63) rfl rfl hHeld (h := ?_)
                refine py 6 103 (bt 9 127) rfl rfl (h := ?_)
                refine ty 7 104 (bt 9 255) rfl rfl hHeld (h := ?_)
                refine py 8 105 (bt 9 511) rfl rfl (h := ?_)
                refine done_ (by kernel_rfl) ?_
                go_wp2_with fail
                go_roundg m
                case measure => omega
                case rel => exact ⟨i + 1, by first | rfl | exact congrArg (Value.int .i64) (by have := hri.out.2.1; have := hri.out.2.2.1; (try simp only [IntKind.wrap_i64]); (try unfold wrap64); omega), by omega, r, (by rw [hr.out]; rcases Nat.lt_or_ge p i with q | q; exact (if_pos q).trans (if_pos (by omega)).symm; exact (if_neg (by omega)).trans (if_neg (by omega)).symm), hF⟩
            · have d1 : decide ((i : Int) < (ws.length : Int)) = false := decide_eq_false (by omega)
              have hr2 := hr.out
              rw [if_pos (by omega)] at hr2
              clear hr
              subst hr2
              go_wp2_with fail
              go_meet
              rw [hpl.out]
              exact ⟨hF.out.1, hF.out.2⟩
        · have y0 := (blk_cell g10 0).trans rfl
          have z0 := blk_frozen g10 0
          go_wp2_with fail
          go_meet
          exact ⟨q10.setCell (p := ⟨b10, 0, none⟩) hge.out _, blk_put g10 0 (.int .i64 5) (cs' := #[.int .i64 5, .string ⟨#[]⟩, .int .i64 0, .int .i64 0, .int .i64 0, .int .i64 0, .string ⟨#[]⟩, .string ⟨#[]⟩, .int .i64 0, .int .i64 0, .string ⟨#[]⟩, .bool false, .string id, .int .i64 0]) rfl⟩
        · have hlk : (St.look fn ns id).isSome = true := by
            cases h : (St.look fn ns id).isSome with
            | true => rfl
            | false => have := h00.out; rw [h] at this; exact absurd this (by show ¬ (122 : Int) = 0; decide)
          obtain ⟨hp, hpn, hpl⟩ := found zN hri.out.2.2.2.2.1 hlk
          have hpos : ∀ i, i < ns.length → (ns.getD i zN).f0 = id → cnt fn ns id = i := fun i hi h => (Rx.pos_of (z := zN) hri.out.2.2.2.2.1 hi h).1
          generalize cnt fn ns id = p at *
          clear hlk
          replace hpl := Lib.hid hpl
          replace hpos := Lib.hid hpos
          replace hpn := Lib.hid hpn
          have y0 := (blk_cell g10 0).trans rfl
          have z0 := blk_frozen g10 0
          have g1 := blk_put g10 0 (.int .i64 4) (cs' := #[.int .i64 4, .string ⟨#[]⟩, .int .i64 0, .int .i64 0, .int .i64 0, .int .i64 0, .string ⟨#[]⟩, .string ⟨#[]⟩, .int .i64 0, .int .i64 0, .string ⟨#[]⟩, .bool false, .string id, .int .i64 0]) rfl
          have q1 := q10.setCell (p := ⟨b10, 0, none⟩) hge.out (.int .i64 4)
          go_wp2_with fail
          clear y0 z0 g10 q10
          generalize w8.setCell ⟨b10, 0, none⟩ (.int .i64 4) = w9 at *
          have hF := Aside0.mk (And.intro q1 g1)
          clear q1 g1
          go_loopg [13] ns.length (fun kx v_ wr => ∃ i : Nat, v_ = .int .i64 (i : Int) ∧ i + kx = ns.length ∧ ∃ r, r = (if p < i then ns.getD p zN else zN) ∧ Aside0 (Below w7.heap.size w7 wr ∧ wr.heap[b10]? = some (.cells #[.int .i64 4, .string ⟨#[]⟩, .int .i64 0, .int .i64 0, .int .i64 0, .int .i64 0, .string ⟨#[]⟩, .string r.f0, .int .i64 r.f1, .int .i64 r.f2, .string r.f3, .bool r.f4, .string id, .int .i64 0] 36 (0, 0))))
          case atStart => exact ⟨0, rfl, by omega, zN, by rw [if_neg (Nat.not_lt_zero p)], hF⟩
          case round =>
            clear hF
            obtain ⟨i, rfl, hik, r, hr, hF⟩ := hrel
            replace hr := Lib.hid hr
            have s1 := (blk_cell (blk_below h6 hF.out.1) 2).trans rfl
            have o12 := (blk_cell (blk_below h7 hF.out.1) 12).trans rfl
            by_cases hi : i < ns.length
            · obtain ⟨m, rfl⟩ : ∃ m, gk = m + 1 := ⟨gk - 1, by omega⟩
              have d1 : decide ((i : Int) < (ns.length : Int)) = true := decide_eq_true (by omega)
              obtain ⟨ad, eA, p0, p1, p2, p3, p4⟩ := at_T34 (Kd.C_below hN hF.out.1) (i : Int) (by omega) (by omega)
              subst eA
              rw [rdN, Int.toNat_natCast] at p0
              rw [rdN, Int.toNat_natCast] at p1
              rw [rdN, Int.toNat_natCast] at p2
              rw [rdN, Int.toNat_natCast] at p3
              rw [rdN, Int.toNat_natCast] at p4
              obtain ⟨v, hv⟩ : ∃ v, v = ns.getD i zN := ⟨_, rfl⟩
              rw [← hv] at p0
              rw [← hv] at p1
              rw [← hv] at p2
              rw [← hv] at p3
              rw [← hv] at p4
              replace hv := Lib.hid hv
              have pi : (0 ≤ (i : Int)) = True := eq_true (by omega)
              have qi : ((i : Int) < (ns.length : Int)) = True := eq_true (by omega)
              go_wp2_with fail
              by_cases h : v.f0 = id
              · have e1 := Rx.str_eq h
                have hip : p = i := hpos.out i hi (by rw [← hv.out]; exact h)
                clear h
                refine start_ (n := 9) (S := fun w' => w'.cell? ⟨b6, 2, none⟩ = some (.slice (some ad) ns.length d) ∧ w'.cell? (ad.add (i * 5)) = some (.string v.f0) ∧ w'.cell? ⟨b7, 12, none⟩ = some (.string id)) (ds := []) (bt 9 0) (by kernel_rfl) rfl (by kernel_rfl) (⟨s1, p0, o12⟩) (fun hHeld => ?_)
                replace hF := Aside0.mk (And.intro (below_then hF.out.1 hF.out.1.size (below_drew (Below.refl _ _))) (blk_drew hF.out.2))
                generalize wr.drew = wd at *
                refine py 0 122 (bt 9 1) rfl rfl (h := ?_)
                refine ty 1 123 (bt 9 3) rfl rfl hHeld (h := ?_)
                refine py 2 124 (bt 9 7) rfl rfl (h := ?_)
                refine py 3 125 (bt 9 15) rfl rfl (h := ?_)
                refine py 4 126 (bt 9 31) rfl rfl (h := ?_)
                refine ty 5 127 (bt 9 63) rfl rfl hHeld (h := ?_)
                refine py 6 128 (bt 9 127) rfl rfl (h := ?_)
                refine ty 7 129 (bt 9 255) rfl rfl hHeld (h := ?_)
                refine py 8 130 (bt 9 511) rfl rfl (h := ?_)
                refine done_ (by kernel_rfl) ?_
                have s1 : wd.cell? ⟨b6, 2, none⟩ = some (.slice (some ad) ns.length d) := (blk_cell (blk_below h6 hF.out.1) 2).trans rfl
                have y7 := (blk_cell hF.out.2 7).trans rfl
                have z7 := blk_frozen hF.out.2 7
                have y8 := (blk_cell hF.out.2 8).trans rfl
                have z8 := blk_frozen hF.out.2 8
                have y9 := (blk_cell hF.out.2 9).trans rfl
                have z9 := blk_frozen hF.out.2 9
                have y10 := (blk_cell hF.out.2 10).trans rfl
                have z10 := blk_frozen hF.out.2 10
                have y11 := (blk_cell hF.out.2 11).trans rfl
                have z11 := blk_frozen hF.out.2 11
                obtain ⟨ad2, eA, c0, c1, c2, c3, c4⟩ := at_T34 (Kd.C_below hN hF.out.1) (i : Int) (by omega) (by omega)
                injection eA with eA
                subst eA
                rw [rdN, Int.toNat_natCast, ← hv.out] at c0
                rw [rdN, Int.toNat_natCast, ← hv.out] at c1
                rw [rdN, Int.toNat_natCast, ← hv.out] at c2
                rw [rdN, Int.toNat_natCast, ← hv.out] at c3
                rw [rdN, Int.toNat_natCast, ← hv.out] at c4
                have g0 := hF.out.2
                have q0 := hF.out.1
                have g1 := blk_put g0 7 (.string v.f0) (cs' := #[.int .i64 4, .string ⟨#[]⟩, .int .i64 0, .int .i64 0, .int .i64 0, .int .i64 0, .string ⟨#[]⟩, .string v.f0, .int .i64 r.f1, .int .i64 r.f2, .string r.f3, .bool r.f4, .string id, .int .i64 0]) rfl
                have q1 := q0.setCell (p := ⟨b10, 7, none⟩) hge.out (.string v.f0)
                have g2 := blk_put g1 8 (.int .i64 v.f1) (cs' := #[.int .i64 4, .string ⟨#[]⟩, .int .i64 0, .int .i64 0, .int .i64 0, .int .i64 0, .string ⟨#[]⟩, .string v.f0, .int .i64 v.f1, .int .i64 r.f2, .string r.f3, .bool r.f4, .string id, .int .i64 0]) rfl
                have q2 := q1.setCell (p := ⟨b10, 8, none⟩) hge.out (.int .i64 v.f1)
                have g3 := blk_put g2 9 (.int .i64 v.f2) (cs' := #[.int .i64 4, .string ⟨#[]⟩, .int .i64 0, .int .i64 0, .int .i64 0, .int .i64 0, .string ⟨#[]⟩, .string v.f0, .int .i64 v.f1, .int .i64 v.f2, .string r.f3, .bool r.f4, .string id, .int .i64 0]) rfl
                have q3 := q2.setCell (p := ⟨b10, 9, none⟩) hge.out (.int .i64 v.f2)
                have g4 := blk_put g3 10 (.string v.f3) (cs' := #[.int .i64 4, .string ⟨#[]⟩, .int .i64 0, .int .i64 0, .int .i64 0, .int .i64 0, .string ⟨#[]⟩, .string v.f0, .int .i64 v.f1, .int .i64 v.f2, .string v.f3, .bool r.f4, .string id, .int .i64 0]) rfl
                have q4 := q3.setCell (p := ⟨b10, 10, none⟩) hge.out (.string v.f3)
                have g5 := blk_put g4 11 (.bool v.f4) (cs' := #[.int .i64 4, .string ⟨#[]⟩, .int .i64 0, .int .i64 0, .int .i64 0, .int .i64 0, .string ⟨#[]⟩, .string v.f0, .int .i64 v.f1, .int .i64 v.f2, .string v.f3, .bool v.f4, .string id, .int .i64 0]) rfl
                have q5 := q4.setCell (p := ⟨b10, 11, none⟩) hge.out (.bool v.f4)
                have hF2 := Aside0.mk (And.intro q5 g5)
                clear q0 g0 q1 g1 q2 g2 q3 g3 q4 g4 q5 g5
                go_wp2_with fail
                go_roundg m
                case measure => omega
                case rel => exact ⟨i + 1, by first | rfl | exact congrArg (Value.int .i64) (by have := hri.out.2.1; have := hri.out.2.2.1; (try simp only [IntKind.wrap_i64]); (try unfold wrap64); omega), by omega, v, by rw [if_pos (by omega), hip]; exact hv.out, hF2⟩
              · have e1 := Rx.str_ne h
                have hne : ¬ i = p := fun e => h (by rw [hv.out, e]; exact hpn.out)
                clear h
                refine start_ (n := 9) (S := fun w' => w'.cell? ⟨b6, 2, none⟩ = some (.slice (some ad) ns.length d) ∧ w'.cell? (ad.add (i * 5)) = some (.string v.f0) ∧ w'.cell? ⟨b7, 12, none⟩ = some (.string id)) (ds := []) (bt 9 0) (by kernel_rfl) rfl (by kernel_rfl) (⟨s1, p0, o12⟩) (fun hHeld => ?_)
                replace hF := Aside0.mk (And.intro (below_then hF.out.1 hF.out.1.size (below_drew (Below.refl _ _))) (blk_drew hF.out.2))
                generalize wr.drew = wd at *
                refine py 0 122 (bt 9 1) rfl rfl (h := ?_)
                refine ty 1 123 (bt 9 3) rfl rfl hHeld (h := ?_)
                refine py 2 124 (bt 9 7) rfl rfl (h := ?_)
                refine py 3 125 (bt 9 15) rfl rfl (h := ?_)
                refine py 4 126 (bt 9 31) rfl rfl (h := ?_)
                refine ty 5 127 (bt 9 63) rfl rfl hHeld (h := ?_)
                refine py 6 128 (bt 9 127) rfl rfl (h := ?_)
                refine ty 7 129 (bt 9 255) rfl rfl hHeld (h := ?_)
                refine py 8 130 (bt 9 511) rfl rfl (h := ?_)
                refine done_ (by kernel_rfl) ?_
                go_wp2_with fail
                go_roundg m
                case measure => omega
                case rel => exact ⟨i + 1, by first | rfl | exact congrArg (Value.int .i64) (by have := hri.out.2.1; have := hri.out.2.2.1; (try simp only [IntKind.wrap_i64]); (try unfold wrap64); omega), by omega, r, (by rw [hr.out]; rcases Nat.lt_or_ge p i with q | q; exact (if_pos q).trans (if_pos (by omega)).symm; exact (if_neg (by omega)).trans (if_neg (by omega)).symm), hF⟩
            · have d1 : decide ((i : Int) < (ns.length : Int)) = false := decide_eq_false (by omega)
              have hr2 := hr.out
              rw [if_pos (by omega)] at hr2
              clear hr
              subst hr2
              go_wp2_with fail
              go_meet
              rw [hpl.out]
              exact ⟨hF.out.1, hF.out.2⟩
        · have y0 := (blk_cell g10 0).trans rfl
          have z0 := blk_frozen g10 0
          go_wp2_with fail
          go_meet
          exact ⟨q10.setCell (p := ⟨b10, 0, none⟩) hge.out _, blk_put g10 0 (.int .i64 7) (cs' := #[.int .i64 7, .string ⟨#[]⟩, .int .i64 0, .int .i64 0, .int .i64 0, .int .i64 0, .string ⟨#[]⟩, .string ⟨#[]⟩, .int .i64 0, .int .i64 0, .string ⟨#[]⟩, .bool false, .string id, .int .i64 0]) rfl⟩
        · have y0 := (blk_cell g10 0).trans rfl
          have z0 := blk_frozen g10 0
          go_wp2_with fail
          go_meet
          exact ⟨q10.setCell (p := ⟨b10, 0, none⟩) hge.out _, blk_put g10 0 (.int .i64 6) (cs' := #[.int .i64 6, .string ⟨#[]⟩, .int .i64 0, .int .i64 0, .int .i64 0, .int .i64 0, .string ⟨#[]⟩, .string ⟨#[]⟩, .int .i64 0, .int .i64 0, .string ⟨#[]⟩, .bool false, .string id, .int .i64 0]) rfl⟩
      case rest =>
        obtain ⟨hq, h10⟩ := hcut
        clear g10 q10 hb10
        replace hB := below_then hB hB.size hq
        replace hA := Kd.C_below hA hq
        replace hN := Kd.C_below hN hq
        replace h6 := blk_below h6 hq
        replace h7 := blk_below h7 hq
        replace hAT := Kd.C_below hAT hq
        replace hBT := Kd.C_below hBT hq
        replace h8 := blk_below h8 hq
        clear hq
        have hsX := bX_small (k := k) (id := id) hsm.1
        have hsY := bY_small (k := k) (id := id) hsm.2
        have hbk := hur.out.1
        generalize bX k (St.look fw ws id) = bx at *
        generalize bY k (St.look fn ns id) = by_ at *
        generalize bV k (St.look fw ws id) = bv at *
        have hkb : bK k = bK k := rfl
        generalize bK k = bk at *
        clear hkb hbk
        have t0 := (blk_cell h8 0).trans rfl
        have t1 := (blk_cell h8 1).trans rfl
        have t2 := (blk_cell h8 2).trans rfl
        have v0 := (blk_cell h10 0).trans rfl
        have v1 := (blk_cell h10 1).trans rfl
        have v2 := (blk_cell h10 2).trans rfl
        have v3 := (blk_cell h10 3).trans rfl
        have v4 := (blk_cell h10 4).trans rfl
        have v5 := (blk_cell h10 5).trans rfl
        have v6 := (blk_cell h10 6).trans rfl
        have v7 := (blk_cell h10 7).trans rfl
        have v8 := (blk_cell h10 8).trans rfl
        have v9 := (blk_cell h10 9).trans rfl
        have v10 := (blk_cell h10 10).trans rfl
        have v11 := (blk_cell h10 11).trans rfl
        have v12 := (blk_cell h10 12).trans rfl
        have v13 := (blk_cell h10 13).trans rfl
        go_wp2_with fail
        clear t0 t1 t2 v0 v1 v2 v3 v4 v5 v6 v7 v8 v9 v10 v11 v12 v13
        obtain ⟨U, hU⟩ : ∃ Z_, Z_ = applyS T.1 T.2.1 T.2.2.1 bk bx by_ id bv := ⟨_, rfl⟩
        have hap := apply_any T.1 AT BT T.2.1.length T.2.2.1.length T.2.1 T.2.2.1 bk bx by_ id bv wc hAT (Nat.le_refl _) hBT (Nat.le_refl _) hsmT hsX hsY
        rw [← hU] at hap
        have hsmU := apply_small (e := T.1) (k := bk) (id := id) (want := bv) hsmT hsX hsY
        rw [← hU] at hsmU
        replace hU := Lib.hid hU
        refine (hap).mono ?_
        rintro e' w10 ⟨AU, BU, rfl, hAU, hBU, hbU⟩
        replace hB := below_then hB hB.size hbU
        replace hA := Kd.C_below hA hbU
        replace hN := Kd.C_below hN hbU
        replace h6 := blk_below h6 hbU
        replace h7 := blk_below h7 hbU
        replace hAT := Kd.C_below hAT hbU
        replace hBT := Kd.C_below hBT hbU
        replace h8 := blk_below h8 hbU
        replace h10 := blk_below h10 hbU
        clear hbU
        clear hap
        replace hAU := rowW_C hAU
        replace hBU := rowN_C hBU
        have hlaw2 := hlaw.out
        rw [← hU.out] at hlaw2
        obtain ⟨hu0, hlaw2⟩ := hlaw2
        have c0 : (U.2.2.2 != 0) = false := by rw [hu0]; rfl
        replace hu0 := Lib.hid hu0
        replace hlaw2 := Lib.hid hlaw2
        have h14 := blk_new w10 (.cells #[.int .i64 U.1, .slice AU U.2.1.length U.2.1.length, .slice BU U.2.2.1.length U.2.2.1.length] 27)
        have qh14 := below_alloc (Below.refl w10.heap.size w10) (.cells #[.int .i64 U.1, .slice AU U.2.1.length U.2.1.length, .slice BU U.2.2.1.length U.2.2.1.length] 27)
        replace hB := below_then hB hB.size qh14
        replace hA := Kd.C_below hA qh14
        replace hN := Kd.C_below hN qh14
        replace h6 := blk_below h6 qh14
        replace h7 := blk_below h7 qh14
        replace hAT := Kd.C_below hAT qh14
        replace hBT := Kd.C_below hBT qh14
        replace h8 := blk_below h8 qh14
        replace h10 := blk_below h10 qh14
        replace hAU := Kd.C_below hAU qh14
        replace hBU := Kd.C_below hBU qh14
        clear qh14
        by_cases h67 : k = 6 ∨ k = 7
        · rcases h67 with rfl | rfl
          · have o0 := (blk_cell h7 0).trans rfl
            go_wp2_with fail
            generalize (w10.alloc (.cells #[.int .i64 U.1, .slice AU U.2.1.length U.2.1.length, .slice BU U.2.2.1.length U.2.2.1.length] 27)) = w11 at *
            generalize w10.heap.size = b14 at *
            clear o0
            have hF := Aside0.mk (Below.refl w11.heap.size w11)
            go_loopg [16] ns.length (fun kx v_ wr => ∃ i : Nat, v_ = .int .i64 (i : Int) ∧ i + kx = ns.length ∧ (∀ j, j < i → ¬ ((ns.getD j zN).f0 = id ∧ (ns.getD j zN).f4 = decide ((6 : Int) = 6))) ∧ Aside0 (Below w11.heap.size w11 wr))
            case atStart => exact ⟨0, rfl, by omega, (fun j hj => absurd hj (Nat.not_lt_zero j)), hF⟩
            case round =>
              clear hF
              obtain ⟨i, rfl, hik, hI, hF⟩ := hrel
              replace hI := Lib.hid hI
              have s2 := (blk_cell (blk_below h6 hF.out) 2).trans rfl
              have o12 := (blk_cell (blk_below h7 hF.out) 12).trans rfl
              have o0 := (blk_cell (blk_below h7 hF.out) 0).trans rfl
              by_cases hi : i < ns.length
              · obtain ⟨m, rfl⟩ : ∃ m, gk = m + 1 := ⟨gk - 1, by omega⟩
                have d1 : decide ((i : Int) < (ns.length : Int)) = true := decide_eq_true (by omega)
                obtain ⟨ad, eA, p0, p1, p2, p3, p4⟩ := at_T34 (Kd.C_below hN hF.out) (i : Int) (by omega) (by omega)
                subst eA
                rw [rdN, Int.toNat_natCast] at p0
                rw [rdN, Int.toNat_natCast] at p4
                obtain ⟨v, hv⟩ : ∃ v, v = ns.getD i zN := ⟨_, rfl⟩
                rw [← hv] at p0
                rw [← hv] at p4
                clear p1 p2 p3
                replace hv := Lib.hid hv
                have pi : (0 ≤ (i : Int)) = True := eq_true (by omega)
                have qi : ((i : Int) < (ns.length : Int)) = True := eq_true (by omega)
                go_wp2_with fail
                by_cases h : v.f0 = id
                · have e1 := Rx.str_eq h
                  cases h4 : v.f4 with
                  | true =>
                    rw [h4] at p4
                    clear h h4
                    refine start_ (n := 21) (S := fun w' => w'.cell? ⟨b6, 2, none⟩ = some (.slice (some ad) ns.length d) ∧ w'.cell? (ad.add (i * 5)) = some (.string v.f0) ∧ w'.cell? ⟨(ad.add (i * 5)).block, (ad.add (i * 5)).off + 4, none⟩ = some (.bool true) ∧ w'.cell? ⟨b7, 12, none⟩ = some (.string id) ∧ w'.cell? ⟨b7, 0, none⟩ = some (.int .i64 6)) (ds := []) (bt 21 0) (by kernel_rfl) rfl (by kernel_rfl) (⟨s2, p0, p4, o12, o0⟩) (fun hHeld => ?_)
                    replace hF := Aside0.mk (below_then hF.out hF.out.size (below_drew (Below.refl _ _)))
                    generalize wr.drew = wd at *
                    refine py 0 164 (bt 21 1) rfl rfl (h := ?_)
                    refine ty 1 165 (bt 21 3) rfl rfl hHeld (h := ?_)
                    refine py 2 166 (bt 21 7) rfl rfl (h := ?_)
                    refine py 3 167 (bt 21 15) rfl rfl (h := ?_)
                    refine py 4 168 (bt 21 31) rfl rfl (h := ?_)
                    refine ty 5 169 (bt 21 63) rfl rfl hHeld (h := ?_)
                    refine py 6 170 (bt 21 127) rfl rfl (h := ?_)
                    refine ty 7 171 (bt 21 255) rfl rfl hHeld (h := ?_)
                    refine py 8 172 (bt 21 511) rfl rfl (h := ?_)
                    refine py 9 173 (bt 21 1023) rfl rfl (h := ?_)
                    refine py 10 174 (bt 21 2047) rfl rfl (h := ?_)
                    refine ty 11 175 (bt 21 4095) rfl rfl hHeld (h := ?_)
                    refine py 12 176 (bt 21 8191) rfl rfl (h := ?_)
                    refine py 13 177 (bt 21 16383) rfl rfl (h := ?_)
                    refine py 14 178 (bt 21 32767) rfl rfl (h := ?_)
                    refine ty 15 179 (bt 21 65535) rfl rfl hHeld (h := ?_)
                    refine py 16 180 (bt 21 131071) rfl rfl (h := ?_)
                    refine ty 17 181 (bt 21 262143) rfl rfl hHeld (h := ?_)
                    refine py 18 182 (bt 21 524287) rfl rfl (h := ?_)
                    refine py 19 183 (bt 21 1048575) rfl rfl (h := ?_)
                    refine py 20 184 (bt 21 2097151) rfl rfl (h := ?_)
                    refine done_ (by kernel_rfl) ?_
                    go_wp2_with fail
                    go_ret
                    exact ⟨rfl, below_then hB hB.size hF.out⟩
                  | false =>
                    rw [h4] at p4
                    have hno := Lib.hid (show ¬ (v.f0 = id ∧ v.f4 = decide ((6 : Int) = 6)) from fun q => by have q2 := q.2; rw [h4] at q2; exact absurd q2 (by decide))
                    clear h h4
                    refine start_ (n := 21) (S := fun w' => w'.cell? ⟨b6, 2, none⟩ = some (.slice (some ad) ns.length d) ∧ w'.cell? (ad.add (i * 5)) = some (.string v.f0) ∧ w'.cell? ⟨(ad.add (i * 5)).block, (ad.add (i * 5)).off + 4, none⟩ = some (.bool false) ∧ w'.cell? ⟨b7, 12, none⟩ = some (.string id) ∧ w'.cell? ⟨b7, 0, none⟩ = some (.int .i64 6)) (ds := []) (bt 21 0) (by kernel_rfl) rfl (by kernel_rfl) (⟨s2, p0, p4, o12, o0⟩) (fun hHeld => ?_)
                    replace hF := Aside0.mk (below_then hF.out hF.out.size (below_drew (Below.refl _ _)))
                    generalize wr.drew = wd at *
                    refine py 0 164 (bt 21 1) rfl rfl (h := ?_)
                    refine ty 1 165 (bt 21 3) rfl rfl hHeld (h := ?_)
                    refine py 2 166 (bt 21 7) rfl rfl (h := ?_)
                    refine py 3 167 (bt 21 15) rfl rfl (h := ?_)
                    refine py 4 168 (bt 21 31) rfl rfl (h := ?_)
                    refine ty 5 169 (bt 21 63) rfl rfl hHeld (h := ?_)
                    refine py 6 170 (bt 21 127) rfl rfl (h := ?_)
                    refine ty 7 171 (bt 21 255) rfl rfl hHeld (h := ?_)
                    refine py 8 172 (bt 21 511) rfl rfl (h := ?_)
                    refine py 9 173 (bt 21 1023) rfl rfl (h := ?_)
                    refine py 10 174 (bt 21 2047) rfl rfl (h := ?_)
                    refine ty 11 175 (bt 21 4095) rfl rfl hHeld (h := ?_)
                    refine py 12 176 (bt 21 8191) rfl rfl (h := ?_)
                    refine py 13 177 (bt 21 16383) rfl rfl (h := ?_)
                    refine py 14 178 (bt 21 32767) rfl rfl (h := ?_)
                    refine ty 15 179 (bt 21 65535) rfl rfl hHeld (h := ?_)
                    refine py 16 180 (bt 21 131071) rfl rfl (h := ?_)
                    refine ty 17 181 (bt 21 262143) rfl rfl hHeld (h := ?_)
                    refine py 18 182 (bt 21 524287) rfl rfl (h := ?_)
                    refine py 19 183 (bt 21 1048575) rfl rfl (h := ?_)
                    refine py 20 184 (bt 21 2097151) rfl rfl (h := ?_)
                    refine done_ (by kernel_rfl) ?_
                    go_wp2_with fail
                    go_roundg m
                    case measure => omega
                    case rel => exact ⟨i + 1, by first | rfl | exact congrArg (Value.int .i64) (by have := hri.out.2.1; have := hri.out.2.2.1; (try simp only [IntKind.wrap_i64]); (try unfold wrap64); omega), by omega, (fun j hj => by
                      rcases Nat.lt_or_ge j i with h | h
                      · exact hI.out j h
                      · rw [show j = i by omega, ← hv.out]; exact hno.out), hF⟩
                · have e1 := Rx.str_ne h
                  have hno := Lib.hid (show ¬ (v.f0 = id ∧ v.f4 = decide ((6 : Int) = 6)) from fun q => h q.1)
                  clear h
                  refine start_ (n := 21) (S := fun w' => w'.cell? ⟨b6, 2, none⟩ = some (.slice (some ad) ns.length d) ∧ w'.cell? (ad.add (i * 5)) = some (.string v.f0) ∧ w'.cell? ⟨(ad.add (i * 5)).block, (ad.add (i * 5)).off + 4, none⟩ = some (.bool v.f4) ∧ w'.cell? ⟨b7, 12, none⟩ = some (.string id) ∧ w'.cell? ⟨b7, 0, none⟩ = some (.int .i64 6)) (ds := []) (bt 21 0) (by kernel_rfl) rfl (by kernel_rfl) (⟨s2, p0, p4, o12, o0⟩) (fun hHeld => ?_)
                  replace hF := Aside0.mk (below_then hF.out hF.out.size (below_drew (Below.refl _ _)))
                  generalize wr.drew = wd at *
                  refine py 0 164 (bt 21 1) rfl rfl (h := ?_)
                  refine ty 1 165 (bt 21 3) rfl rfl hHeld (h := ?_)
                  refine py 2 166 (bt 21 7) rfl rfl (h := ?_)
                  refine py 3 167 (bt 21 15) rfl rfl (h := ?_)
                  refine py 4 168 (bt 21 31) rfl rfl (h := ?_)
                  refine ty 5 169 (bt 21 63) rfl rfl hHeld (h := ?_)
                  refine py 6 170 (bt 21 127) rfl rfl (h := ?_)
                  refine ty 7 171 (bt 21 255) rfl rfl hHeld (h := ?_)
                  refine py 8 172 (bt 21 511) rfl rfl (h := ?_)
                  refine py 9 173 (bt 21 1023) rfl rfl (h := ?_)
                  refine oy 10 174 (bt 21 2047) rfl rfl (h := ?_)
                  refine oy 11 175 (bt 21 4095) rfl rfl (h := ?_)
                  refine oy 12 176 (bt 21 8191) rfl rfl (h := ?_)
                  refine oy 13 177 (bt 21 16383) rfl rfl (h := ?_)
                  refine oy 14 178 (bt 21 32767) rfl rfl (h := ?_)
                  refine oy 15 179 (bt 21 65535) rfl rfl (h := ?_)
                  refine oy 16 180 (bt 21 131071) rfl rfl (h := ?_)
                  refine oy 17 181 (bt 21 262143) rfl rfl (h := ?_)
                  refine oy 18 182 (bt 21 524287) rfl rfl (h := ?_)
                  refine oy 19 183 (bt 21 1048575) rfl rfl (h := ?_)
                  refine py 20 184 (bt 21 2097151) rfl rfl (h := ?_)
                  refine done_ (by kernel_rfl) ?_
                  go_wp2_with fail
                  go_roundg m
                  case measure => omega
                  case rel => exact ⟨i + 1, by first | rfl | exact congrArg (Value.int .i64) (by have := hri.out.2.1; have := hri.out.2.2.1; (try simp only [IntKind.wrap_i64]); (try unfold wrap64); omega), by omega, (fun j hj => by
                    rcases Nat.lt_or_ge j i with h | h
                    · exact hI.out j h
                    · rw [show j = i by omega, ← hv.out]; exact hno.out), hF⟩
              · have d1 : decide ((i : Int) < (ns.length : Int)) = false := decide_eq_false (by omega)
                have hUS : U = (ep, ws, ns, 0) := hlaw2.out.resolve_left (fun h => by
                  have h2 := h.2
                  cases hz : St.look fn ns id with
                  | none => rw [hz] at h2; cases h2
                  | some z =>
                    rw [hz] at h2
                    obtain ⟨f1, f2, f3⟩ := found zN hri.out.2.2.2.2.1 (show (St.look fn ns id).isSome = true by rw [hz]; rfl)
                    rw [hz] at f3
                    injection f3 with f3
                    refine hI.out _ (show cnt fn ns id < i by omega) ⟨f2, ?_⟩
                    rw [← f3]
                    exact of_decide_eq_true h2)
                clear hur hlaw hlaw2 hu0 hU hI s2 o12 o0
                subst hUS
                replace hB := below_then hB hB.size hF.out
                replace hA := Kd.C_below hA hF.out
                replace hN := Kd.C_below hN hF.out
                replace h6 := blk_below h6 hF.out
                replace h7 := blk_below h7 hF.out
                replace hAT := Kd.C_below hAT hF.out
                replace hBT := Kd.C_below hBT hF.out
                replace h8 := blk_below h8 hF.out
                replace h10 := blk_below h10 hF.out
                replace hAU := Kd.C_below hAU hF.out
                replace hBU := Kd.C_below hBU hF.out
                replace h14 := blk_below h14 hF.out
                have u0 := (blk_cell h14 0).trans rfl
                have u1 := (blk_cell h14 1).trans rfl
                have u2 := (blk_cell h14 2).trans rfl
                have s0 := (blk_cell h6 0).trans rfl
                have s1 := (blk_cell h6 1).trans rfl
                have s2 := (blk_cell h6 2).trans rfl
                go_wp2_with fail
                clear u0 u1 u2 s0 s1 s2
                refine (Sy.same_yes ep AU BU A B _ _ _ _ ws ns wr hAU hBU hA hN (by have := hri.out.2.1; omega) (by have := hri.out.2.2.1; omega)).mono ?_
                rintro e' w99 ⟨rfl, hbS⟩
                replace hB := below_then hB hB.size hbS
                replace hA := Kd.C_below hA hbS
                replace hN := Kd.C_below hN hbS
                replace h6 := blk_below h6 hbS
                replace h7 := blk_below h7 hbS
                replace hAT := Kd.C_below hAT hbS
                replace hBT := Kd.C_below hBT hbS
                replace h8 := blk_below h8 hbS
                replace h10 := blk_below h10 hbS
                replace hAU := Kd.C_below hAU hbS
                replace hBU := Kd.C_below hBU hbS
                replace h14 := blk_below h14 hbS
                clear hbS
                go_wp2_with fail
                go_ret
                exact ⟨rfl, hB⟩
          · have o0 := (blk_cell h7 0).trans rfl
            go_wp2_with fail
            generalize (w10.alloc (.cells #[.int .i64 U.1, .slice AU U.2.1.length U.2.1.length, .slice BU U.2.2.1.length U.2.2.1.length] 27)) = w11 at *
            generalize w10.heap.size = b14 at *
            clear o0
            have hF := Aside0.mk (Below.refl w11.heap.size w11)
            go_loopg [16] ns.length (fun kx v_ wr => ∃ i : Nat, v_ = .int .i64 (i : Int) ∧ i + kx = ns.length ∧ (∀ j, j < i → ¬ ((ns.getD j zN).f0 = id ∧ (ns.getD j zN).f4 = decide ((7 : Int) = 6))) ∧ Aside0 (Below w11.heap.size w11 wr))
            case atStart => exact ⟨0, rfl, by omega, (fun j hj => absurd hj (Nat.not_lt_zero j)), hF⟩
            case round =>
              clear hF
              obtain ⟨i, rfl, hik, hI, hF⟩ := hrel
              replace hI := Lib.hid hI
              have s2 := (blk_cell (blk_below h6 hF.out) 2).trans rfl
              have o12 := (blk_cell (blk_below h7 hF.out) 12).trans rfl
              have o0 := (blk_cell (blk_below h7 hF.out) 0).trans rfl
              by_cases hi : i < ns.length
              · obtain ⟨m, rfl⟩ : ∃ m, gk = m + 1 := ⟨gk - 1, by omega⟩
                have d1 : decide ((i : Int) < (ns.length : Int)) = true := decide_eq_true (by omega)
                obtain ⟨ad, eA, p0, p1, p2, p3, p4⟩ := at_T34 (Kd.C_below hN hF.out) (i : Int) (by omega) (by omega)
                subst eA
                rw [rdN, Int.toNat_natCast] at p0
                rw [rdN, Int.toNat_natCast] at p4
                obtain ⟨v, hv⟩ : ∃ v, v = ns.getD i zN := ⟨_, rfl⟩
                rw [← hv] at p0
                rw [← hv] at p4
                clear p1 p2 p3
                replace hv := Lib.hid hv
                have pi : (0 ≤ (i : Int)) = True := eq_true (by omega)
                have qi : ((i : Int) < (ns.length : Int)) = True := eq_true (by omega)
                go_wp2_with fail
                by_cases h : v.f0 = id
                · have e1 := Rx.str_eq h
                  cases h4 : v.f4 with
                  | true =>
                    rw [h4] at p4
                    have hno := Lib.hid (show ¬ (v.f0 = id ∧ v.f4 = decide ((7 : Int) = 6)) from fun q => by have q2 := q.2; rw [h4] at q2; exact absurd q2 (by decide))
                    clear h h4
                    refine start_ (n := 21) (S := fun w' => w'.cell? ⟨b6, 2, none⟩ = some (.slice (some ad) ns.length d) ∧ w'.cell? (ad.add (i * 5)) = some (.string v.f0) ∧ w'.cell? ⟨(ad.add (i * 5)).block, (ad.add (i * 5)).off + 4, none⟩ = some (.bool true) ∧ w'.cell? ⟨b7, 12, none⟩ = some (.string id) ∧ w'.cell? ⟨b7, 0, none⟩ = some (.int .i64 7)) (ds := []) (bt 21 0) (by kernel_rfl) rfl (by kernel_rfl) (⟨s2, p0, p4, o12, o0⟩) (fun hHeld => ?_)
                    replace hF := Aside0.mk (below_then hF.out hF.out.size (below_drew (Below.refl _ _)))
                    generalize wr.drew = wd at *
                    refine py 0 164 (bt 21 1) rfl rfl (h := ?_)
                    refine ty 1 165 (bt 21 3) rfl rfl hHeld (h := ?_)
                    refine py 2 166 (bt 21 7) rfl rfl (h := ?_)
                    refine py 3 167 (bt 21 15) rfl rfl (h := ?_)
                    refine py 4 168 (bt 21 31) rfl rfl (h := ?_)
                    refine ty 5 169 (bt 21 63) rfl rfl hHeld (h := ?_)
                    refine py 6 170 (bt 21 127) rfl rfl (h := ?_)
                    refine ty 7 171 (bt 21 255) rfl rfl hHeld (h := ?_)
                    refine py 8 172 (bt 21 511) rfl rfl (h := ?_)
                    refine py 9 173 (bt 21 1023) rfl rfl (h := ?_)
                    refine py 10 174 (bt 21 2047) rfl rfl (h := ?_)
                    refine ty 11 175 (bt 21 4095) rfl rfl hHeld (h := ?_)
                    refine py 12 176 (bt 21 8191) rfl rfl (h := ?_)
                    refine py 13 177 (bt 21 16383) rfl rfl (h := ?_)
                    refine py 14 178 (bt 21 32767) rfl rfl (h := ?_)
                    refine ty 15 179 (bt 21 65535) rfl rfl hHeld (h := ?_)
                    refine py 16 180 (bt 21 131071) rfl rfl (h := ?_)
                    refine ty 17 181 (bt 21 262143) rfl rfl hHeld (h := ?_)
                    refine py 18 182 (bt 21 524287) rfl rfl (h := ?_)
                    refine py 19 183 (bt 21 1048575) rfl rfl (h := ?_)
                    refine py 20 184 (bt 21 2097151) rfl rfl (h := ?_)
                    refine done_ (by kernel_rfl) ?_
                    go_wp2_with fail
                    go_roundg m
                    case measure => omega
                    case rel => exact ⟨i + 1, by first | rfl | exact congrArg (Value.int .i64) (by have := hri.out.2.1; have := hri.out.2.2.1; (try simp only [IntKind.wrap_i64]); (try unfold wrap64); omega), by omega, (fun j hj => by
                      rcases Nat.lt_or_ge j i with h | h
                      · exact hI.out j h
                      · rw [show j = i by omega, ← hv.out]; exact hno.out), hF⟩
                  | false =>
                    rw [h4] at p4
                    clear h h4
                    refine start_ (n := 21) (S := fun w' => w'.cell? ⟨b6, 2, none⟩ = some (.slice (some ad) ns.length d) ∧ w'.cell? (ad.add (i * 5)) = some (.string v.f0) ∧ w'.cell? ⟨(ad.add (i * 5)).block, (ad.add (i * 5)).off + 4, none⟩ = some (.bool false) ∧ w'.cell? ⟨b7, 12, none⟩ = some (.string id) ∧ w'.cell? ⟨b7, 0, none⟩ = some (.int .i64 7)) (ds := []) (bt 21 0) (by kernel_rfl) rfl (by kernel_rfl) (⟨s2, p0, p4, o12, o0⟩) (fun hHeld => ?_)
                    replace hF := Aside0.mk (below_then hF.out hF.out.size (below_drew (Below.refl _ _)))
                    generalize wr.drew = wd at *
                    refine py 0 164 (bt 21 1) rfl rfl (h := ?_)
                    refine ty 1 165 (bt 21 3) rfl rfl hHeld (h := ?_)
                    refine py 2 166 (bt 21 7) rfl rfl (h := ?_)
                    refine py 3 167 (bt 21 15) rfl rfl (h := ?_)
                    refine py 4 168 (bt 21 31) rfl rfl (h := ?_)
                    refine ty 5 169 (bt 21 63) rfl rfl hHeld (h := ?_)
                    refine py 6 170 (bt 21 127) rfl rfl (h := ?_)
                    refine ty 7 171 (bt 21 255) rfl rfl hHeld (h := ?_)
                    refine py 8 172 (bt 21 511) rfl rfl (h := ?_)
                    refine py 9 173 (bt 21 1023) rfl rfl (h := ?_)
                    refine py 10 174 (bt 21 2047) rfl rfl (h := ?_)
                    refine ty 11 175 (bt 21 4095) rfl rfl hHeld (h := ?_)
                    refine py 12 176 (bt 21 8191) rfl rfl (h := ?_)
                    refine py 13 177 (bt 21 16383) rfl rfl (h := ?_)
                    refine py 14 178 (bt 21 32767) rfl rfl (h := ?_)
                    refine ty 15 179 (bt 21 65535) rfl rfl hHeld (h := ?_)
                    refine py 16 180 (bt 21 131071) rfl rfl (h := ?_)
                    refine ty 17 181 (bt 21 262143) rfl rfl hHeld (h := ?_)
                    refine py 18 182 (bt 21 524287) rfl rfl (h := ?_)
                    refine py 19 183 (bt 21 1048575) rfl rfl (h := ?_)
                    refine py 20 184 (bt 21 2097151) rfl rfl (h := ?_)
                    refine done_ (by kernel_rfl) ?_
                    go_wp2_with fail
                    go_ret
                    exact ⟨rfl, below_then hB hB.size hF.out⟩
                · have e1 := Rx.str_ne h
                  have hno := Lib.hid (show ¬ (v.f0 = id ∧ v.f4 = decide ((7 : Int) = 6)) from fun q => h q.1)
                  clear h
                  refine start_ (n := 21) (S := fun w' => w'.cell? ⟨b6, 2, none⟩ = some (.slice (some ad) ns.length d) ∧ w'.cell? (ad.add (i * 5)) = some (.string v.f0) ∧ w'.cell? ⟨(ad.add (i * 5)).block, (ad.add (i * 5)).off + 4, none⟩ = some (.bool v.f4) ∧ w'.cell? ⟨b7, 12, none⟩ = some (.string id) ∧ w'.cell? ⟨b7, 0, none⟩ = some (.int .i64 7)) (ds := []) (bt 21 0) (by kernel_rfl) rfl (by kernel_rfl) (⟨s2, p0, p4, o12, o0⟩) (fun hHeld => ?_)
                  replace hF := Aside0.mk (below_then hF.out hF.out.size (below_drew (Below.refl _ _)))
                  generalize wr.drew = wd at *
                  refine py 0 164 (bt 21 1) rfl rfl (h := ?_)
                  refine ty 1 165 (bt 21 3) rfl rfl hHeld (h := ?_)
                  refine py 2 166 (bt 21 7) rfl rfl (h := ?_)
                  refine py 3 167 (bt 21 15) rfl rfl (h := ?_)
                  refine py 4 168 (bt 21 31) rfl rfl (h := ?_)
                  refine ty 5 169 (bt 21 63) rfl rfl hHeld (h := ?_)
                  refine py 6 170 (bt 21 127) rfl rfl (h := ?_)
                  refine ty 7 171 (bt 21 255) rfl rfl hHeld (h := ?_)
                  refine py 8 172 (bt 21 511) rfl rfl (h := ?_)
                  refine py 9 173 (bt 21 1023) rfl rfl (h := ?_)
                  refine oy 10 174 (bt 21 2047) rfl rfl (h := ?_)
                  refine oy 11 175 (bt 21 4095) rfl rfl (h := ?_)
                  refine oy 12 176 (bt 21 8191) rfl rfl (h := ?_)
                  refine oy 13 177 (bt 21 16383) rfl rfl (h := ?_)
                  refine oy 14 178 (bt 21 32767) rfl rfl (h := ?_)
                  refine oy 15 179 (bt 21 65535) rfl rfl (h := ?_)
                  refine oy 16 180 (bt 21 131071) rfl rfl (h := ?_)
                  refine oy 17 181 (bt 21 262143) rfl rfl (h := ?_)
                  refine oy 18 182 (bt 21 524287) rfl rfl (h := ?_)
                  refine oy 19 183 (bt 21 1048575) rfl rfl (h := ?_)
                  refine py 20 184 (bt 21 2097151) rfl rfl (h := ?_)
                  refine done_ (by kernel_rfl) ?_
                  go_wp2_with fail
                  go_roundg m
                  case measure => omega
                  case rel => exact ⟨i + 1, by first | rfl | exact congrArg (Value.int .i64) (by have := hri.out.2.1; have := hri.out.2.2.1; (try simp only [IntKind.wrap_i64]); (try unfold wrap64); omega), by omega, (fun j hj => by
                    rcases Nat.lt_or_ge j i with h | h
                    · exact hI.out j h
                    · rw [show j = i by omega, ← hv.out]; exact hno.out), hF⟩
              · have d1 : decide ((i : Int) < (ns.length : Int)) = false := decide_eq_false (by omega)
                have hUS : U = (ep, ws, ns, 0) := hlaw2.out.resolve_left (fun h => by
                  have h2 := h.2
                  cases hz : St.look fn ns id with
                  | none => rw [hz] at h2; cases h2
                  | some z =>
                    rw [hz] at h2
                    obtain ⟨f1, f2, f3⟩ := found zN hri.out.2.2.2.2.1 (show (St.look fn ns id).isSome = true by rw [hz]; rfl)
                    rw [hz] at f3
                    injection f3 with f3
                    refine hI.out _ (show cnt fn ns id < i by omega) ⟨f2, ?_⟩
                    rw [← f3]
                    exact of_decide_eq_true h2)
                clear hur hlaw hlaw2 hu0 hU hI s2 o12 o0
                subst hUS
                replace hB := below_then hB hB.size hF.out
                replace hA := Kd.C_below hA hF.out
                replace hN := Kd.C_below hN hF.out
                replace h6 := blk_below h6 hF.out
                replace h7 := blk_below h7 hF.out
                replace hAT := Kd.C_below hAT hF.out
                replace hBT := Kd.C_below hBT hF.out
                replace h8 := blk_below h8 hF.out
                replace h10 := blk_below h10 hF.out
                replace hAU := Kd.C_below hAU hF.out
                replace hBU := Kd.C_below hBU hF.out
                replace h14 := blk_below h14 hF.out
                have u0 := (blk_cell h14 0).trans rfl
                have u1 := (blk_cell h14 1).trans rfl
                have u2 := (blk_cell h14 2).trans rfl
                have s0 := (blk_cell h6 0).trans rfl
                have s1 := (blk_cell h6 1).trans rfl
                have s2 := (blk_cell h6 2).trans rfl
                go_wp2_with fail
                clear u0 u1 u2 s0 s1 s2
                refine (Sy.same_yes ep AU BU A B _ _ _ _ ws ns wr hAU hBU hA hN (by have := hri.out.2.1; omega) (by have := hri.out.2.2.1; omega)).mono ?_
                rintro e' w99 ⟨rfl, hbS⟩
                replace hB := below_then hB hB.size hbS
                replace hA := Kd.C_below hA hbS
                replace hN := Kd.C_below hN hbS
                replace h6 := blk_below h6 hbS
                replace h7 := blk_below h7 hbS
                replace hAT := Kd.C_below hAT hbS
                replace hBT := Kd.C_below hBT hbS
                replace h8 := blk_below h8 hbS
                replace h10 := blk_below h10 hbS
                replace hAU := Kd.C_below hAU hbS
                replace hBU := Kd.C_below hBU hbS
                replace h14 := blk_below h14 hbS
                clear hbS
                go_wp2_with fail
                go_ret
                exact ⟨rfl, hB⟩
        · have hUS := Lib.hid (show U = (ep, ws, ns, 0) from hlaw2.out.resolve_left (fun h => h67 h.1))
          have k6 : decide (k = 6) = false := decide_eq_false (fun h => h67 (.inl h))
          have k7 : decide (k = 7) = false := decide_eq_false (fun h => h67 (.inr h))
          have k6' : (k == 6) = false := by simpa using k6
          have k7' : (k == 7) = false := by simpa using k7
          replace h67 := Lib.hid h67
          clear hur hlaw hlaw2 hu0 hU
          have o0 := (blk_cell h7 0).trans rfl
          have u0 := (blk_cell h14 0).trans rfl
          have u1 := (blk_cell h14 1).trans rfl
          have u2 := (blk_cell h14 2).trans rfl
          have s0 := (blk_cell h6 0).trans rfl
          have s1 := (blk_cell h6 1).trans rfl
          have s2 := (blk_cell h6 2).trans rfl
          go_wp2_with fail
          generalize (w10.alloc (.cells #[.int .i64 U.1, .slice AU U.2.1.length U.2.1.length, .slice BU U.2.2.1.length U.2.2.1.length] 27)) = w11 at *
          generalize w10.heap.size = b14 at *
          clear o0 u0 u1 u2 s0 s1 s2
          have hUS2 := hUS.out
          clear hUS
          subst hUS2
          refine (Sy.same_yes ep AU BU A B _ _ _ _ ws ns w11 hAU hBU hA hN (by have := hri.out.2.1; omega) (by have := hri.out.2.2.1; omega)).mono ?_
          rintro e' w99 ⟨rfl, hbS⟩
          replace hB := below_then hB hB.size hbS
          replace hA := Kd.C_below hA hbS
          replace hN := Kd.C_below hN hbS
          replace h6 := blk_below h6 hbS
          replace h7 := blk_below h7 hbS
          replace hAT := Kd.C_below hAT hbS
          replace hBT := Kd.C_below hBT hbS
          replace h8 := blk_below h8 hbS
          replace h10 := blk_below h10 hbS
          replace hAU := Kd.C_below hAU hbS
          replace hBU := Kd.C_below hBU hbS
          replace h14 := blk_below h14 hbS
          clear hbS
          go_wp2_with fail
          go_ret
          exact ⟨rfl, hB⟩
  · have b0 : (T.2.2.2 != 0) = true := bne_iff_ne.mpr h0
    have b1 : (T.2.2.2 != 120) = true := bne_iff_ne.mpr (by rw [eT.out]; exact err_ne _ _ _ _ _)
    clear h0 eT dT
    go_wp2_with fail
    go_ret
    exact ⟨rfl, hB⟩
end Go.Proofs.YtldlkbjbfgieeaaGreatDoor.Un
