-- Written by a program of this session (mp.py).
import Derived.Test.YtblhcbnejfmaaaaQx0
import Derived.Test.YtblhcbnejfmaaaaQx11
import Derived.Test.YtblhcbnejfmaaaaQx18
namespace Go.Proofs.Ytblhcbnejfmaaaa.Q
open Go.RowKit Go.Proofs.YtblhcbnejfmaaaaW.PrintWords Go.Proofs.YtblhcbnejfmaaaaW.PrintLast Go.Proofs.YtblhcbnejfmaaaaW.PrintMore
attribute [local go_sem] max2_int min2_int max_two min_two max_three min_three max_four min_four   -- for this text's walks alone
open Go.Proofs.Ytblhcbnejfmaaaa.Giv
set_option linter.unusedVariables false
set_option linter.unusedSimpArgs false

/-! ### billetlaw03_FrameOnce: function 6 -/
def billetlaw03_FrameOnce.f (k : Nat) (a0 : ByteArray) (a1 : ByteArray) : Option (Bool) := (billetlaw03_awake.f k).bind fun t282 => (if 0 ≤ (mn (a0.size : Int) 4096) then (if (mn (a0.size : Int) 4096) ≤ (a0.size : Int) then (if 0 ≤ (mn (a1.size : Int) 4096) then (if (mn (a1.size : Int) 4096) ≤ (a1.size : Int) then ((frame_Lay.f k (a0.extract 0 ((mn (a0.size : Int) 4096) : Int).toNat)).bind fun bt283 => ((frame_Lay.f k (a1.extract 0 ((mn (a1.size : Int) 4096) : Int).toNat)).bind fun bt285 => (if t282 = true then (if bt283.2 = 0 then (if bt285.2 = 0 then (if (mn (bt283.1.size : Int) (bt285.1.size : Int)) ≥ 5 then (if 0 ≤ (mn (bt283.1.size : Int) (bt285.1.size : Int)) then (if (mn (bt283.1.size : Int) (bt285.1.size : Int)) ≤ (bt283.1.size : Int) then (if (mn (bt283.1.size : Int) (bt285.1.size : Int)) ≤ (bt285.1.size : Int) then (some (((bt283.1.extract 0 ((mn (bt283.1.size : Int) (bt285.1.size : Int)) : Int).toNat).toList == (bt285.1.extract 0 ((mn (bt283.1.size : Int) (bt285.1.size : Int)) : Int).toNat).toList) == ((a0.extract 0 ((mn (a0.size : Int) 4096) : Int).toNat).toList == (a1.extract 0 ((mn (a1.size : Int) 4096) : Int).toNat).toList))) else (none)) else (none)) else (none)) else (some false)) else (some false)) else (some false)) else (some false)))) else (none)) else (none)) else (none)) else (none))
theorem billetlaw03_FrameOnce.mono : ∀ a0 a1 k, LeO (billetlaw03_FrameOnce.f k a0 a1) (billetlaw03_FrameOnce.f (k + 1) a0 a1) := by
  intro a0 a1 k
  unfold billetlaw03_FrameOnce.f
  repeat' first
      | (with_reducible exact billetlaw03_awake.mono _)
      | (with_reducible exact frame_Lay.mono _ _)
      | (with_reducible exact LeO.refl _)
      | (with_reducible exact LeO.none _)
      | (with_reducible refine LeO.ite ?_ ?_)
      | (with_reducible refine LeO.bind ?_ (fun _ => ?_))
      | exact billetlaw03_awake.mono _
      | exact frame_Lay.mono _ _
      | exact LeO.none _
      | refine LeO.ite ?_ ?_
      | refine LeO.bind ?_ (fun _ => ?_)
set_option maxHeartbeats 8000000 in
set_option maxRecDepth 100000 in
theorem billetlaw03_FrameOnce.calls (k : Nat) (a0 : ByteArray) (a1 : ByteArray) (r : Bool) (w : World) (h : billetlaw03_FrameOnce.f k a0 a1 = some r) :
    Calls Try.prog 6 #[.string a0, .string a1] w fun e w' => e = .returned (.bool r) ∧ Below w.heap.size w w' := by
  have HB := Aside0.mk (Below.refl w.heap.size w)
  have H : ((billetlaw03_awake.f k).bind fun t282 => (if 0 ≤ (mn (a0.size : Int) 4096) then (if (mn (a0.size : Int) 4096) ≤ (a0.size : Int) then (if 0 ≤ (mn (a1.size : Int) 4096) then (if (mn (a1.size : Int) 4096) ≤ (a1.size : Int) then ((frame_Lay.f k (a0.extract 0 ((mn (a0.size : Int) 4096) : Int).toNat)).bind fun bt283 => ((frame_Lay.f k (a1.extract 0 ((mn (a1.size : Int) 4096) : Int).toNat)).bind fun bt285 => (if t282 = true then (if bt283.2 = 0 then (if bt285.2 = 0 then (if (mn (bt283.1.size : Int) (bt285.1.size : Int)) ≥ 5 then (if 0 ≤ (mn (bt283.1.size : Int) (bt285.1.size : Int)) then (if (mn (bt283.1.size : Int) (bt285.1.size : Int)) ≤ (bt283.1.size : Int) then (if (mn (bt283.1.size : Int) (bt285.1.size : Int)) ≤ (bt285.1.size : Int) then (some (((bt283.1.extract 0 ((mn (bt283.1.size : Int) (bt285.1.size : Int)) : Int).toNat).toList == (bt285.1.extract 0 ((mn (bt283.1.size : Int) (bt285.1.size : Int)) : Int).toNat).toList) == ((a0.extract 0 ((mn (a0.size : Int) 4096) : Int).toNat).toList == (a1.extract 0 ((mn (a1.size : Int) 4096) : Int).toNat).toList))) else (none)) else (none)) else (none)) else (some false)) else (some false)) else (some false)) else (some false)))) else (none)) else (none)) else (none)) else (none))) = some r := h
  clear h
  replace H := Option.bind_eq_some_iff.mp H
  obtain ⟨t282, A30, H⟩ := H
  replace H : (if 0 ≤ (mn (a0.size : Int) 4096) then (if (mn (a0.size : Int) 4096) ≤ (a0.size : Int) then (if 0 ≤ (mn (a1.size : Int) 4096) then (if (mn (a1.size : Int) 4096) ≤ (a1.size : Int) then ((frame_Lay.f k (a0.extract 0 ((mn (a0.size : Int) 4096) : Int).toNat)).bind fun bt283 => ((frame_Lay.f k (a1.extract 0 ((mn (a1.size : Int) 4096) : Int).toNat)).bind fun bt285 => (if t282 = true then (if bt283.2 = 0 then (if bt285.2 = 0 then (if (mn (bt283.1.size : Int) (bt285.1.size : Int)) ≥ 5 then (if 0 ≤ (mn (bt283.1.size : Int) (bt285.1.size : Int)) then (if (mn (bt283.1.size : Int) (bt285.1.size : Int)) ≤ (bt283.1.size : Int) then (if (mn (bt283.1.size : Int) (bt285.1.size : Int)) ≤ (bt285.1.size : Int) then (some (((bt283.1.extract 0 ((mn (bt283.1.size : Int) (bt285.1.size : Int)) : Int).toNat).toList == (bt285.1.extract 0 ((mn (bt283.1.size : Int) (bt285.1.size : Int)) : Int).toNat).toList) == ((a0.extract 0 ((mn (a0.size : Int) 4096) : Int).toNat).toList == (a1.extract 0 ((mn (a1.size : Int) 4096) : Int).toNat).toList))) else (none)) else (none)) else (none)) else (some false)) else (some false)) else (some false)) else (some false)))) else (none)) else (none)) else (none)) else (none)) = some r := H
  have A3 := Aside0.mk A30
  clear A30
  obtain ⟨ji4, hji4⟩ : ∃ j_ : Int, (mn (a0.size : Int) 4096) = j_ := ⟨_, rfl⟩
  replace H : (if 0 ≤ (ji4) then (if (ji4) ≤ (a0.size : Int) then (if 0 ≤ (mn (a1.size : Int) 4096) then (if (mn (a1.size : Int) 4096) ≤ (a1.size : Int) then ((frame_Lay.f k (a0.extract 0 ((ji4) : Int).toNat)).bind fun bt283 => ((frame_Lay.f k (a1.extract 0 ((mn (a1.size : Int) 4096) : Int).toNat)).bind fun bt285 => (if t282 = true then (if bt283.2 = 0 then (if bt285.2 = 0 then (if (mn (bt283.1.size : Int) (bt285.1.size : Int)) ≥ 5 then (if 0 ≤ (mn (bt283.1.size : Int) (bt285.1.size : Int)) then (if (mn (bt283.1.size : Int) (bt285.1.size : Int)) ≤ (bt283.1.size : Int) then (if (mn (bt283.1.size : Int) (bt285.1.size : Int)) ≤ (bt285.1.size : Int) then (some (((bt283.1.extract 0 ((mn (bt283.1.size : Int) (bt285.1.size : Int)) : Int).toNat).toList == (bt285.1.extract 0 ((mn (bt283.1.size : Int) (bt285.1.size : Int)) : Int).toNat).toList) == ((a0.extract 0 ((ji4) : Int).toNat).toList == (a1.extract 0 ((mn (a1.size : Int) 4096) : Int).toNat).toList))) else (none)) else (none)) else (none)) else (some false)) else (some false)) else (some false)) else (some false)))) else (none)) else (none)) else (none)) else (none)) = some r := by first | (rw [hji4] at H; exact H) | (simp only [hji4] at H ⊢; exact H)
  (try rw [hji4] at A3)
  (try (have hji4h : ji4 ≤ 4096 := by (rw [← hji4]; unfold mn; (repeat' split) <;> omega)))
  (try (have hji4g : ji4 ≤ 64 := by omega))
  (try (have hji4l : 0 ≤ ji4 := by (rw [← hji4]; unfold mn; (repeat' split) <;> omega)))
  (try (have hji4m : 0 ≤ ji4 := by omega))
  have hji4_ : (if 4096 < (a0.size : Int) then 4096 else (a0.size : Int)) = ji4 := hji4
  by_cases c5 : 0 ≤ (ji4)
  · rw [if_pos c5] at H
    have c5b0 := eq_true c5
    have c5b1 : decide (0 ≤ (ji4)) = true := decide_eq_true c5
    clear c5
    by_cases c6 : (ji4) ≤ (a0.size : Int)
    · rw [if_pos c6] at H
      (try have hle_ji4 := c6)
      (try have hmx_ji4 : max ji4 0 = ji4 := by omega)
      have c6b0 := eq_true c6
      have c6b1 : decide ((ji4) ≤ (a0.size : Int)) = true := decide_eq_true c6
      clear c6
      obtain ⟨ji7, hji7⟩ : ∃ j_ : Int, (mn (a1.size : Int) 4096) = j_ := ⟨_, rfl⟩
      replace H : (if 0 ≤ (ji7) then (if (ji7) ≤ (a1.size : Int) then ((frame_Lay.f k (a0.extract 0 ((ji4) : Int).toNat)).bind fun bt283 => ((frame_Lay.f k (a1.extract 0 ((ji7) : Int).toNat)).bind fun bt285 => (if t282 = true then (if bt283.2 = 0 then (if bt285.2 = 0 then (if (mn (bt283.1.size : Int) (bt285.1.size : Int)) ≥ 5 then (if 0 ≤ (mn (bt283.1.size : Int) (bt285.1.size : Int)) then (if (mn (bt283.1.size : Int) (bt285.1.size : Int)) ≤ (bt283.1.size : Int) then (if (mn (bt283.1.size : Int) (bt285.1.size : Int)) ≤ (bt285.1.size : Int) then (some (((bt283.1.extract 0 ((mn (bt283.1.size : Int) (bt285.1.size : Int)) : Int).toNat).toList == (bt285.1.extract 0 ((mn (bt283.1.size : Int) (bt285.1.size : Int)) : Int).toNat).toList) == ((a0.extract 0 ((ji4) : Int).toNat).toList == (a1.extract 0 ((ji7) : Int).toNat).toList))) else (none)) else (none)) else (none)) else (some false)) else (some false)) else (some false)) else (some false)))) else (none)) else (none)) = some r := by first | (rw [hji7] at H; exact H) | (simp only [hji7] at H ⊢; exact H)
      (try rw [hji7] at A3)
      (try (have hji7h : ji7 ≤ 4096 := by (rw [← hji7]; unfold mn; (repeat' split) <;> omega)))
      (try (have hji7g : ji7 ≤ 64 := by omega))
      (try (have hji7l : 0 ≤ ji7 := by (rw [← hji7]; unfold mn; (repeat' split) <;> omega)))
      (try (have hji7m : 0 ≤ ji7 := by omega))
      have hji7_ : (if 4096 < (a1.size : Int) then 4096 else (a1.size : Int)) = ji7 := hji7
      by_cases c8 : 0 ≤ (ji7)
      · rw [if_pos c8] at H
        have c8b0 := eq_true c8
        have c8b1 : decide (0 ≤ (ji7)) = true := decide_eq_true c8
        clear c8
        by_cases c9 : (ji7) ≤ (a1.size : Int)
        · rw [if_pos c9] at H
          (try have hle_ji7 := c9)
          (try have hmx_ji7 : max ji7 0 = ji7 := by omega)
          have c9b0 := eq_true c9
          have c9b1 : decide ((ji7) ≤ (a1.size : Int)) = true := decide_eq_true c9
          clear c9
          replace H := Option.bind_eq_some_iff.mp H
          obtain ⟨⟨t283, t284⟩, A100, H⟩ := H
          replace H : ((frame_Lay.f k (a1.extract 0 ((ji7) : Int).toNat)).bind fun bt285 => (if t282 = true then (if t284 = 0 then (if bt285.2 = 0 then (if (mn (t283.size : Int) (bt285.1.size : Int)) ≥ 5 then (if 0 ≤ (mn (t283.size : Int) (bt285.1.size : Int)) then (if (mn (t283.size : Int) (bt285.1.size : Int)) ≤ (t283.size : Int) then (if (mn (t283.size : Int) (bt285.1.size : Int)) ≤ (bt285.1.size : Int) then (some (((t283.extract 0 ((mn (t283.size : Int) (bt285.1.size : Int)) : Int).toNat).toList == (bt285.1.extract 0 ((mn (t283.size : Int) (bt285.1.size : Int)) : Int).toNat).toList) == ((a0.extract 0 ((ji4) : Int).toNat).toList == (a1.extract 0 ((ji7) : Int).toNat).toList))) else (none)) else (none)) else (none)) else (some false)) else (some false)) else (some false)) else (some false))) = some r := H
          have A10 := Aside0.mk A100
          clear A100
          replace H := Option.bind_eq_some_iff.mp H
          obtain ⟨⟨t285, t286⟩, A110, H⟩ := H
          replace H : (if t282 = true then (if t284 = 0 then (if t286 = 0 then (if (mn (t283.size : Int) (t285.size : Int)) ≥ 5 then (if 0 ≤ (mn (t283.size : Int) (t285.size : Int)) then (if (mn (t283.size : Int) (t285.size : Int)) ≤ (t283.size : Int) then (if (mn (t283.size : Int) (t285.size : Int)) ≤ (t285.size : Int) then (some (((t283.extract 0 ((mn (t283.size : Int) (t285.size : Int)) : Int).toNat).toList == (t285.extract 0 ((mn (t283.size : Int) (t285.size : Int)) : Int).toNat).toList) == ((a0.extract 0 ((ji4) : Int).toNat).toList == (a1.extract 0 ((ji7) : Int).toNat).toList))) else (none)) else (none)) else (none)) else (some false)) else (some false)) else (some false)) else (some false)) = some r := H
          have A11 := Aside0.mk A110
          clear A110
          obtain ⟨ji12, hji12⟩ : ∃ j_ : Int, (mn (t283.size : Int) (t285.size : Int)) = j_ := ⟨_, rfl⟩
          replace H : (if t282 = true then (if t284 = 0 then (if t286 = 0 then (if (ji12) ≥ 5 then (if 0 ≤ (ji12) then (if (ji12) ≤ (t283.size : Int) then (if (ji12) ≤ (t285.size : Int) then (some (((t283.extract 0 ((ji12) : Int).toNat).toList == (t285.extract 0 ((ji12) : Int).toNat).toList) == ((a0.extract 0 ((ji4) : Int).toNat).toList == (a1.extract 0 ((ji7) : Int).toNat).toList))) else (none)) else (none)) else (none)) else (some false)) else (some false)) else (some false)) else (some false)) = some r := by first | (rw [hji12] at H; exact H) | (simp only [hji12] at H ⊢; exact H)
          (try rw [hji12] at A3)
          (try rw [hji12] at A10)
          (try rw [hji12] at A11)
          (try (have hji12l : 0 ≤ ji12 := by (rw [← hji12]; unfold mn; (repeat' split) <;> omega)))
          (try (have hji12m : 0 ≤ ji12 := by omega))
          have hji12_ : (if (t285.size : Int) < (t283.size : Int) then (t285.size : Int) else (t283.size : Int)) = ji12 := hji12
          (try have hji12_n : (if t285.size < t283.size then ((t285.size : Nat) : Int) else ((t283.size : Nat) : Int)) = ji12 := by (have hz_ := hji12_; simp only [Int.ofNat_lt] at hz_; exact hz_))
          by_cases c13 : t282 = true
          · subst c13
            have H1 : (if t284 = 0 then (if t286 = 0 then (if (ji12) ≥ 5 then (if 0 ≤ (ji12) then (if (ji12) ≤ (t283.size : Int) then (if (ji12) ≤ (t285.size : Int) then (some (((t283.extract 0 ((ji12) : Int).toNat).toList == (t285.extract 0 ((ji12) : Int).toNat).toList) == ((a0.extract 0 ((ji4) : Int).toNat).toList == (a1.extract 0 ((ji7) : Int).toNat).toList))) else (none)) else (none)) else (none)) else (some false)) else (some false)) else (some false)) = some r := by rw [if_pos rfl] at H; exact H
            clear H
            have H := H1
            clear H1
            by_cases c14 : t284 = 0
            · rw [if_pos c14] at H
              have c14b0 : (t284 == 0) = true := beq_iff_eq.mpr c14
              have c14b1 : (t284 != 0) = false := bne_eq_false_iff_eq.mpr c14
              clear c14
              by_cases c15 : t286 = 0
              · rw [if_pos c15] at H
                have c15b0 : (t286 == 0) = true := beq_iff_eq.mpr c15
                have c15b1 : (t286 != 0) = false := bne_eq_false_iff_eq.mpr c15
                clear c15
                by_cases c16 : (ji12) ≥ 5
                · rw [if_pos c16] at H
                  have c16b0 : decide (5 ≤ (ji12)) = true := decide_eq_true c16
                  clear c16
                  by_cases c17 : 0 ≤ (ji12)
                  · rw [if_pos c17] at H
                    have c17b0 := eq_true c17
                    have c17b1 : decide (0 ≤ (ji12)) = true := decide_eq_true c17
                    clear c17
                    by_cases c18 : (ji12) ≤ (t283.size : Int)
                    · rw [if_pos c18] at H
                      (try have hle_ji12 := c18)
                      (try have hmx_ji12 : max ji12 0 = ji12 := by omega)
                      have c18b0 := eq_true c18
                      have c18b1 : decide ((ji12) ≤ (t283.size : Int)) = true := decide_eq_true c18
                      clear c18
                      have c19b0 := eq_true (of_decide_eq_true (by first | (with_reducible assumption) | assumption) : 0 ≤ (ji12))
                      by_cases c20 : (ji12) ≤ (t285.size : Int)
                      · rw [if_pos c20] at H
                        (try have hle_ji12 := c20)
                        (try have hmx_ji12 : max ji12 0 = ji12 := by omega)
                        have c20b0 := eq_true c20
                        have c20b1 : decide ((ji12) ≤ (t285.size : Int)) = true := decide_eq_true c20
                        clear c20
                        obtain rfl := Option.some.inj H
                        go_enter Try.func6, Try.ntmps6
                        go_wp2_with (first | (go_at_call 10; (with_reducible refine (billetlaw03_awake.calls k  true _ A3.out).mono ?_); rintro e w21 ⟨rfl, hb⟩; have n0_ := Aside0.mk (below_step (by repeat (first | (with_reducible first | exact HB.out | apply below_alloc | apply pw_below_drewN | apply below_drew1) | exact HB.out)) hb); clear HB; have HB := n0_; clear n0_; (try clear hb); (try clear hb2); (try clear hk); (try clear hi)) | (go_at_call 11; (with_reducible refine (frame_Lay.calls k (a0.extract 0 ((ji4) : Int).toNat) t283 t284 _ A10.out).mono ?_); rintro e w22 ⟨rfl, hb⟩; have n0_ := Aside0.mk (below_step (by repeat (first | (with_reducible first | exact HB.out | apply below_alloc | apply pw_below_drewN | apply below_drew1) | exact HB.out)) hb); clear HB; have HB := n0_; clear n0_; (try clear hb); (try clear hb2); (try clear hk); (try clear hi)) | (go_at_call 11; (with_reducible refine (frame_Lay.calls k (a1.extract 0 ((ji7) : Int).toNat) t285 t286 _ A11.out).mono ?_); rintro e w23 ⟨rfl, hb⟩; have n0_ := Aside0.mk (below_step (by repeat (first | (with_reducible first | exact HB.out | apply below_alloc | apply pw_below_drewN | apply below_drew1) | exact HB.out)) hb); clear HB; have HB := n0_; clear n0_; (try clear hb); (try clear hb2); (try clear hk); (try clear hi)))
                        repeat (go_quiet (first | (go_at_call 10; (with_reducible refine (billetlaw03_awake.calls k  true _ A3.out).mono ?_); rintro e w21 ⟨rfl, hb⟩; have n0_ := Aside0.mk (below_step (by repeat (first | (with_reducible first | exact HB.out | apply below_alloc | apply pw_below_drewN | apply below_drew1) | exact HB.out)) hb); clear HB; have HB := n0_; clear n0_; (try clear hb); (try clear hb2); (try clear hk); (try clear hi)) | (go_at_call 11; (with_reducible refine (frame_Lay.calls k (a0.extract 0 ((ji4) : Int).toNat) t283 t284 _ A10.out).mono ?_); rintro e w22 ⟨rfl, hb⟩; have n0_ := Aside0.mk (below_step (by repeat (first | (with_reducible first | exact HB.out | apply below_alloc | apply pw_below_drewN | apply below_drew1) | exact HB.out)) hb); clear HB; have HB := n0_; clear n0_; (try clear hb); (try clear hb2); (try clear hk); (try clear hi)) | (go_at_call 11; (with_reducible refine (frame_Lay.calls k (a1.extract 0 ((ji7) : Int).toNat) t285 t286 _ A11.out).mono ?_); rintro e w23 ⟨rfl, hb⟩; have n0_ := Aside0.mk (below_step (by repeat (first | (with_reducible first | exact HB.out | apply below_alloc | apply pw_below_drewN | apply below_drew1) | exact HB.out)) hb); clear HB; have HB := n0_; clear n0_; (try clear hb); (try clear hb2); (try clear hk); (try clear hi))); try go_wp2_with (first | (go_at_call 10; (with_reducible refine (billetlaw03_awake.calls k  true _ A3.out).mono ?_); rintro e w21 ⟨rfl, hb⟩; have n0_ := Aside0.mk (below_step (by repeat (first | (with_reducible first | exact HB.out | apply below_alloc | apply pw_below_drewN | apply below_drew1) | exact HB.out)) hb); clear HB; have HB := n0_; clear n0_; (try clear hb); (try clear hb2); (try clear hk); (try clear hi)) | (go_at_call 11; (with_reducible refine (frame_Lay.calls k (a0.extract 0 ((ji4) : Int).toNat) t283 t284 _ A10.out).mono ?_); rintro e w22 ⟨rfl, hb⟩; have n0_ := Aside0.mk (below_step (by repeat (first | (with_reducible first | exact HB.out | apply below_alloc | apply pw_below_drewN | apply below_drew1) | exact HB.out)) hb); clear HB; have HB := n0_; clear n0_; (try clear hb); (try clear hb2); (try clear hk); (try clear hi)) | (go_at_call 11; (with_reducible refine (frame_Lay.calls k (a1.extract 0 ((ji7) : Int).toNat) t285 t286 _ A11.out).mono ?_); rintro e w23 ⟨rfl, hb⟩; have n0_ := Aside0.mk (below_step (by repeat (first | (with_reducible first | exact HB.out | apply below_alloc | apply pw_below_drewN | apply below_drew1) | exact HB.out)) hb); clear HB; have HB := n0_; clear n0_; (try clear hb); (try clear hb2); (try clear hk); (try clear hi))))
                        go_ret
                        exact ⟨by first | rfl | (simp [errW_none, errW_some] <;> rfl) | (simp only [← hji4, ← hji7, ← hji12]; first | rfl | (simp [errW_none, errW_some] <;> rfl)) | (simp [*, errW_none, errW_some] <;> rfl), by repeat (first | (with_reducible first | exact HB.out | apply below_alloc | apply pw_below_drewN | apply below_drew1) | exact HB.out)⟩
                      · rw [if_neg c20] at H
                        exact absurd H (by simp)
                    · rw [if_neg c18] at H
                      exact absurd H (by simp)
                  · rw [if_neg c17] at H
                    exact absurd H (by simp)
                · rw [if_neg c16] at H
                  have c16b0 : decide (5 ≤ (ji12)) = false := decide_eq_false c16
                  clear c16
                  obtain rfl := Option.some.inj H
                  go_enter Try.func6, Try.ntmps6
                  go_wp2_with (first | (go_at_call 10; (with_reducible refine (billetlaw03_awake.calls k  true _ A3.out).mono ?_); rintro e w24 ⟨rfl, hb⟩; have n0_ := Aside0.mk (below_step (by repeat (first | (with_reducible first | exact HB.out | apply below_alloc | apply pw_below_drewN | apply below_drew1) | exact HB.out)) hb); clear HB; have HB := n0_; clear n0_; (try clear hb); (try clear hb2); (try clear hk); (try clear hi)) | (go_at_call 11; (with_reducible refine (frame_Lay.calls k (a0.extract 0 ((ji4) : Int).toNat) t283 t284 _ A10.out).mono ?_); rintro e w25 ⟨rfl, hb⟩; have n0_ := Aside0.mk (below_step (by repeat (first | (with_reducible first | exact HB.out | apply below_alloc | apply pw_below_drewN | apply below_drew1) | exact HB.out)) hb); clear HB; have HB := n0_; clear n0_; (try clear hb); (try clear hb2); (try clear hk); (try clear hi)) | (go_at_call 11; (with_reducible refine (frame_Lay.calls k (a1.extract 0 ((ji7) : Int).toNat) t285 t286 _ A11.out).mono ?_); rintro e w26 ⟨rfl, hb⟩; have n0_ := Aside0.mk (below_step (by repeat (first | (with_reducible first | exact HB.out | apply below_alloc | apply pw_below_drewN | apply below_drew1) | exact HB.out)) hb); clear HB; have HB := n0_; clear n0_; (try clear hb); (try clear hb2); (try clear hk); (try clear hi)))
                  repeat (go_quiet (first | (go_at_call 10; (with_reducible refine (billetlaw03_awake.calls k  true _ A3.out).mono ?_); rintro e w24 ⟨rfl, hb⟩; have n0_ := Aside0.mk (below_step (by repeat (first | (with_reducible first | exact HB.out | apply below_alloc | apply pw_below_drewN | apply below_drew1) | exact HB.out)) hb); clear HB; have HB := n0_; clear n0_; (try clear hb); (try clear hb2); (try clear hk); (try clear hi)) | (go_at_call 11; (with_reducible refine (frame_Lay.calls k (a0.extract 0 ((ji4) : Int).toNat) t283 t284 _ A10.out).mono ?_); rintro e w25 ⟨rfl, hb⟩; have n0_ := Aside0.mk (below_step (by repeat (first | (with_reducible first | exact HB.out | apply below_alloc | apply pw_below_drewN | apply below_drew1) | exact HB.out)) hb); clear HB; have HB := n0_; clear n0_; (try clear hb); (try clear hb2); (try clear hk); (try clear hi)) | (go_at_call 11; (with_reducible refine (frame_Lay.calls k (a1.extract 0 ((ji7) : Int).toNat) t285 t286 _ A11.out).mono ?_); rintro e w26 ⟨rfl, hb⟩; have n0_ := Aside0.mk (below_step (by repeat (first | (with_reducible first | exact HB.out | apply below_alloc | apply pw_below_drewN | apply below_drew1) | exact HB.out)) hb); clear HB; have HB := n0_; clear n0_; (try clear hb); (try clear hb2); (try clear hk); (try clear hi))); try go_wp2_with (first | (go_at_call 10; (with_reducible refine (billetlaw03_awake.calls k  true _ A3.out).mono ?_); rintro e w24 ⟨rfl, hb⟩; have n0_ := Aside0.mk (below_step (by repeat (first | (with_reducible first | exact HB.out | apply below_alloc | apply pw_below_drewN | apply below_drew1) | exact HB.out)) hb); clear HB; have HB := n0_; clear n0_; (try clear hb); (try clear hb2); (try clear hk); (try clear hi)) | (go_at_call 11; (with_reducible refine (frame_Lay.calls k (a0.extract 0 ((ji4) : Int).toNat) t283 t284 _ A10.out).mono ?_); rintro e w25 ⟨rfl, hb⟩; have n0_ := Aside0.mk (below_step (by repeat (first | (with_reducible first | exact HB.out | apply below_alloc | apply pw_below_drewN | apply below_drew1) | exact HB.out)) hb); clear HB; have HB := n0_; clear n0_; (try clear hb); (try clear hb2); (try clear hk); (try clear hi)) | (go_at_call 11; (with_reducible refine (frame_Lay.calls k (a1.extract 0 ((ji7) : Int).toNat) t285 t286 _ A11.out).mono ?_); rintro e w26 ⟨rfl, hb⟩; have n0_ := Aside0.mk (below_step (by repeat (first | (with_reducible first | exact HB.out | apply below_alloc | apply pw_below_drewN | apply below_drew1) | exact HB.out)) hb); clear HB; have HB := n0_; clear n0_; (try clear hb); (try clear hb2); (try clear hk); (try clear hi))))
                  go_ret
                  exact ⟨by first | rfl | (simp [errW_none, errW_some] <;> rfl) | (simp only [← hji4, ← hji7, ← hji12]; first | rfl | (simp [errW_none, errW_some] <;> rfl)) | (simp [*, errW_none, errW_some] <;> rfl), by repeat (first | (with_reducible first | exact HB.out | apply below_alloc | apply pw_below_drewN | apply below_drew1) | exact HB.out)⟩
              · rw [if_neg c15] at H
                have c15b0 : (t286 == 0) = false := beq_eq_false_iff_ne.mpr c15
                have c15b1 : (t286 != 0) = true := bne_iff_ne.mpr c15
                obtain rfl := Option.some.inj H
                go_enter Try.func6, Try.ntmps6
                go_wp2_with (first | (go_at_call 10; (with_reducible refine (billetlaw03_awake.calls k  true _ A3.out).mono ?_); rintro e w27 ⟨rfl, hb⟩; have n0_ := Aside0.mk (below_step (by repeat (first | (with_reducible first | exact HB.out | apply below_alloc | apply pw_below_drewN | apply below_drew1) | exact HB.out)) hb); clear HB; have HB := n0_; clear n0_; (try clear hb); (try clear hb2); (try clear hk); (try clear hi)) | (go_at_call 11; (with_reducible refine (frame_Lay.calls k (a0.extract 0 ((ji4) : Int).toNat) t283 t284 _ A10.out).mono ?_); rintro e w28 ⟨rfl, hb⟩; have n0_ := Aside0.mk (below_step (by repeat (first | (with_reducible first | exact HB.out | apply below_alloc | apply pw_below_drewN | apply below_drew1) | exact HB.out)) hb); clear HB; have HB := n0_; clear n0_; (try clear hb); (try clear hb2); (try clear hk); (try clear hi)) | (go_at_call 11; (with_reducible refine (frame_Lay.calls k (a1.extract 0 ((ji7) : Int).toNat) t285 t286 _ A11.out).mono ?_); rintro e w29 ⟨rfl, hb⟩; have n0_ := Aside0.mk (below_step (by repeat (first | (with_reducible first | exact HB.out | apply below_alloc | apply pw_below_drewN | apply below_drew1) | exact HB.out)) hb); clear HB; have HB := n0_; clear n0_; (try clear hb); (try clear hb2); (try clear hk); (try clear hi)))
                repeat (go_quiet (first | (go_at_call 10; (with_reducible refine (billetlaw03_awake.calls k  true _ A3.out).mono ?_); rintro e w27 ⟨rfl, hb⟩; have n0_ := Aside0.mk (below_step (by repeat (first | (with_reducible first | exact HB.out | apply below_alloc | apply pw_below_drewN | apply below_drew1) | exact HB.out)) hb); clear HB; have HB := n0_; clear n0_; (try clear hb); (try clear hb2); (try clear hk); (try clear hi)) | (go_at_call 11; (with_reducible refine (frame_Lay.calls k (a0.extract 0 ((ji4) : Int).toNat) t283 t284 _ A10.out).mono ?_); rintro e w28 ⟨rfl, hb⟩; have n0_ := Aside0.mk (below_step (by repeat (first | (with_reducible first | exact HB.out | apply below_alloc | apply pw_below_drewN | apply below_drew1) | exact HB.out)) hb); clear HB; have HB := n0_; clear n0_; (try clear hb); (try clear hb2); (try clear hk); (try clear hi)) | (go_at_call 11; (with_reducible refine (frame_Lay.calls k (a1.extract 0 ((ji7) : Int).toNat) t285 t286 _ A11.out).mono ?_); rintro e w29 ⟨rfl, hb⟩; have n0_ := Aside0.mk (below_step (by repeat (first | (with_reducible first | exact HB.out | apply below_alloc | apply pw_below_drewN | apply below_drew1) | exact HB.out)) hb); clear HB; have HB := n0_; clear n0_; (try clear hb); (try clear hb2); (try clear hk); (try clear hi))); try go_wp2_with (first | (go_at_call 10; (with_reducible refine (billetlaw03_awake.calls k  true _ A3.out).mono ?_); rintro e w27 ⟨rfl, hb⟩; have n0_ := Aside0.mk (below_step (by repeat (first | (with_reducible first | exact HB.out | apply below_alloc | apply pw_below_drewN | apply below_drew1) | exact HB.out)) hb); clear HB; have HB := n0_; clear n0_; (try clear hb); (try clear hb2); (try clear hk); (try clear hi)) | (go_at_call 11; (with_reducible refine (frame_Lay.calls k (a0.extract 0 ((ji4) : Int).toNat) t283 t284 _ A10.out).mono ?_); rintro e w28 ⟨rfl, hb⟩; have n0_ := Aside0.mk (below_step (by repeat (first | (with_reducible first | exact HB.out | apply below_alloc | apply pw_below_drewN | apply below_drew1) | exact HB.out)) hb); clear HB; have HB := n0_; clear n0_; (try clear hb); (try clear hb2); (try clear hk); (try clear hi)) | (go_at_call 11; (with_reducible refine (frame_Lay.calls k (a1.extract 0 ((ji7) : Int).toNat) t285 t286 _ A11.out).mono ?_); rintro e w29 ⟨rfl, hb⟩; have n0_ := Aside0.mk (below_step (by repeat (first | (with_reducible first | exact HB.out | apply below_alloc | apply pw_below_drewN | apply below_drew1) | exact HB.out)) hb); clear HB; have HB := n0_; clear n0_; (try clear hb); (try clear hb2); (try clear hk); (try clear hi))))
                go_ret
                exact ⟨by first | rfl | (simp [errW_none, errW_some] <;> rfl) | (simp only [← hji4, ← hji7, ← hji12]; first | rfl | (simp [errW_none, errW_some] <;> rfl)) | (simp [*, errW_none, errW_some] <;> rfl), by repeat (first | (with_reducible first | exact HB.out | apply below_alloc | apply pw_below_drewN | apply below_drew1) | exact HB.out)⟩
            · rw [if_neg c14] at H
              have c14b0 : (t284 == 0) = false := beq_eq_false_iff_ne.mpr c14
              have c14b1 : (t284 != 0) = true := bne_iff_ne.mpr c14
              obtain rfl := Option.some.inj H
              go_enter Try.func6, Try.ntmps6
              go_wp2_with (first | (go_at_call 10; (with_reducible refine (billetlaw03_awake.calls k  true _ A3.out).mono ?_); rintro e w30 ⟨rfl, hb⟩; have n0_ := Aside0.mk (below_step (by repeat (first | (with_reducible first | exact HB.out | apply below_alloc | apply pw_below_drewN | apply below_drew1) | exact HB.out)) hb); clear HB; have HB := n0_; clear n0_; (try clear hb); (try clear hb2); (try clear hk); (try clear hi)) | (go_at_call 11; (with_reducible refine (frame_Lay.calls k (a0.extract 0 ((ji4) : Int).toNat) t283 t284 _ A10.out).mono ?_); rintro e w31 ⟨rfl, hb⟩; have n0_ := Aside0.mk (below_step (by repeat (first | (with_reducible first | exact HB.out | apply below_alloc | apply pw_below_drewN | apply below_drew1) | exact HB.out)) hb); clear HB; have HB := n0_; clear n0_; (try clear hb); (try clear hb2); (try clear hk); (try clear hi)) | (go_at_call 11; (with_reducible refine (frame_Lay.calls k (a1.extract 0 ((ji7) : Int).toNat) t285 t286 _ A11.out).mono ?_); rintro e w32 ⟨rfl, hb⟩; have n0_ := Aside0.mk (below_step (by repeat (first | (with_reducible first | exact HB.out | apply below_alloc | apply pw_below_drewN | apply below_drew1) | exact HB.out)) hb); clear HB; have HB := n0_; clear n0_; (try clear hb); (try clear hb2); (try clear hk); (try clear hi)))
              repeat (go_quiet (first | (go_at_call 10; (with_reducible refine (billetlaw03_awake.calls k  true _ A3.out).mono ?_); rintro e w30 ⟨rfl, hb⟩; have n0_ := Aside0.mk (below_step (by repeat (first | (with_reducible first | exact HB.out | apply below_alloc | apply pw_below_drewN | apply below_drew1) | exact HB.out)) hb); clear HB; have HB := n0_; clear n0_; (try clear hb); (try clear hb2); (try clear hk); (try clear hi)) | (go_at_call 11; (with_reducible refine (frame_Lay.calls k (a0.extract 0 ((ji4) : Int).toNat) t283 t284 _ A10.out).mono ?_); rintro e w31 ⟨rfl, hb⟩; have n0_ := Aside0.mk (below_step (by repeat (first | (with_reducible first | exact HB.out | apply below_alloc | apply pw_below_drewN | apply below_drew1) | exact HB.out)) hb); clear HB; have HB := n0_; clear n0_; (try clear hb); (try clear hb2); (try clear hk); (try clear hi)) | (go_at_call 11; (with_reducible refine (frame_Lay.calls k (a1.extract 0 ((ji7) : Int).toNat) t285 t286 _ A11.out).mono ?_); rintro e w32 ⟨rfl, hb⟩; have n0_ := Aside0.mk (below_step (by repeat (first | (with_reducible first | exact HB.out | apply below_alloc | apply pw_below_drewN | apply below_drew1) | exact HB.out)) hb); clear HB; have HB := n0_; clear n0_; (try clear hb); (try clear hb2); (try clear hk); (try clear hi))); try go_wp2_with (first | (go_at_call 10; (with_reducible refine (billetlaw03_awake.calls k  true _ A3.out).mono ?_); rintro e w30 ⟨rfl, hb⟩; have n0_ := Aside0.mk (below_step (by repeat (first | (with_reducible first | exact HB.out | apply below_alloc | apply pw_below_drewN | apply below_drew1) | exact HB.out)) hb); clear HB; have HB := n0_; clear n0_; (try clear hb); (try clear hb2); (try clear hk); (try clear hi)) | (go_at_call 11; (with_reducible refine (frame_Lay.calls k (a0.extract 0 ((ji4) : Int).toNat) t283 t284 _ A10.out).mono ?_); rintro e w31 ⟨rfl, hb⟩; have n0_ := Aside0.mk (below_step (by repeat (first | (with_reducible first | exact HB.out | apply below_alloc | apply pw_below_drewN | apply below_drew1) | exact HB.out)) hb); clear HB; have HB := n0_; clear n0_; (try clear hb); (try clear hb2); (try clear hk); (try clear hi)) | (go_at_call 11; (with_reducible refine (frame_Lay.calls k (a1.extract 0 ((ji7) : Int).toNat) t285 t286 _ A11.out).mono ?_); rintro e w32 ⟨rfl, hb⟩; have n0_ := Aside0.mk (below_step (by repeat (first | (with_reducible first | exact HB.out | apply below_alloc | apply pw_below_drewN | apply below_drew1) | exact HB.out)) hb); clear HB; have HB := n0_; clear n0_; (try clear hb); (try clear hb2); (try clear hk); (try clear hi))))
              go_ret
              exact ⟨by first | rfl | (simp [errW_none, errW_some] <;> rfl) | (simp only [← hji4, ← hji7, ← hji12]; first | rfl | (simp [errW_none, errW_some] <;> rfl)) | (simp [*, errW_none, errW_some] <;> rfl), by repeat (first | (with_reducible first | exact HB.out | apply below_alloc | apply pw_below_drewN | apply below_drew1) | exact HB.out)⟩
          · replace c13 := Bool.eq_false_iff.mpr c13
            subst c13
            have H1 : (some false) = some r := by rw [if_neg (show ¬ (false = true) by decide)] at H; exact H
            clear H
            have H := H1
            clear H1
            obtain rfl := Option.some.inj H
            go_enter Try.func6, Try.ntmps6
            go_wp2_with (first | (go_at_call 10; (with_reducible refine (billetlaw03_awake.calls k  false _ A3.out).mono ?_); rintro e w33 ⟨rfl, hb⟩; have n0_ := Aside0.mk (below_step (by repeat (first | (with_reducible first | exact HB.out | apply below_alloc | apply pw_below_drewN | apply below_drew1) | exact HB.out)) hb); clear HB; have HB := n0_; clear n0_; (try clear hb); (try clear hb2); (try clear hk); (try clear hi)) | (go_at_call 11; (with_reducible refine (frame_Lay.calls k (a0.extract 0 ((ji4) : Int).toNat) t283 t284 _ A10.out).mono ?_); rintro e w34 ⟨rfl, hb⟩; have n0_ := Aside0.mk (below_step (by repeat (first | (with_reducible first | exact HB.out | apply below_alloc | apply pw_below_drewN | apply below_drew1) | exact HB.out)) hb); clear HB; have HB := n0_; clear n0_; (try clear hb); (try clear hb2); (try clear hk); (try clear hi)) | (go_at_call 11; (with_reducible refine (frame_Lay.calls k (a1.extract 0 ((ji7) : Int).toNat) t285 t286 _ A11.out).mono ?_); rintro e w35 ⟨rfl, hb⟩; have n0_ := Aside0.mk (below_step (by repeat (first | (with_reducible first | exact HB.out | apply below_alloc | apply pw_below_drewN | apply below_drew1) | exact HB.out)) hb); clear HB; have HB := n0_; clear n0_; (try clear hb); (try clear hb2); (try clear hk); (try clear hi)))
            repeat (go_quiet (first | (go_at_call 10; (with_reducible refine (billetlaw03_awake.calls k  false _ A3.out).mono ?_); rintro e w33 ⟨rfl, hb⟩; have n0_ := Aside0.mk (below_step (by repeat (first | (with_reducible first | exact HB.out | apply below_alloc | apply pw_below_drewN | apply below_drew1) | exact HB.out)) hb); clear HB; have HB := n0_; clear n0_; (try clear hb); (try clear hb2); (try clear hk); (try clear hi)) | (go_at_call 11; (with_reducible refine (frame_Lay.calls k (a0.extract 0 ((ji4) : Int).toNat) t283 t284 _ A10.out).mono ?_); rintro e w34 ⟨rfl, hb⟩; have n0_ := Aside0.mk (below_step (by repeat (first | (with_reducible first | exact HB.out | apply below_alloc | apply pw_below_drewN | apply below_drew1) | exact HB.out)) hb); clear HB; have HB := n0_; clear n0_; (try clear hb); (try clear hb2); (try clear hk); (try clear hi)) | (go_at_call 11; (with_reducible refine (frame_Lay.calls k (a1.extract 0 ((ji7) : Int).toNat) t285 t286 _ A11.out).mono ?_); rintro e w35 ⟨rfl, hb⟩; have n0_ := Aside0.mk (below_step (by repeat (first | (with_reducible first | exact HB.out | apply below_alloc | apply pw_below_drewN | apply below_drew1) | exact HB.out)) hb); clear HB; have HB := n0_; clear n0_; (try clear hb); (try clear hb2); (try clear hk); (try clear hi))); try go_wp2_with (first | (go_at_call 10; (with_reducible refine (billetlaw03_awake.calls k  false _ A3.out).mono ?_); rintro e w33 ⟨rfl, hb⟩; have n0_ := Aside0.mk (below_step (by repeat (first | (with_reducible first | exact HB.out | apply below_alloc | apply pw_below_drewN | apply below_drew1) | exact HB.out)) hb); clear HB; have HB := n0_; clear n0_; (try clear hb); (try clear hb2); (try clear hk); (try clear hi)) | (go_at_call 11; (with_reducible refine (frame_Lay.calls k (a0.extract 0 ((ji4) : Int).toNat) t283 t284 _ A10.out).mono ?_); rintro e w34 ⟨rfl, hb⟩; have n0_ := Aside0.mk (below_step (by repeat (first | (with_reducible first | exact HB.out | apply below_alloc | apply pw_below_drewN | apply below_drew1) | exact HB.out)) hb); clear HB; have HB := n0_; clear n0_; (try clear hb); (try clear hb2); (try clear hk); (try clear hi)) | (go_at_call 11; (with_reducible refine (frame_Lay.calls k (a1.extract 0 ((ji7) : Int).toNat) t285 t286 _ A11.out).mono ?_); rintro e w35 ⟨rfl, hb⟩; have n0_ := Aside0.mk (below_step (by repeat (first | (with_reducible first | exact HB.out | apply below_alloc | apply pw_below_drewN | apply below_drew1) | exact HB.out)) hb); clear HB; have HB := n0_; clear n0_; (try clear hb); (try clear hb2); (try clear hk); (try clear hi))))
            go_ret
            exact ⟨by first | rfl | (simp [errW_none, errW_some] <;> rfl) | (simp only [← hji4, ← hji7, ← hji12]; first | rfl | (simp [errW_none, errW_some] <;> rfl)) | (simp [*, errW_none, errW_some] <;> rfl), by repeat (first | (with_reducible first | exact HB.out | apply below_alloc | apply pw_below_drewN | apply below_drew1) | exact HB.out)⟩
        · rw [if_neg c9] at H
          exact absurd H (by simp)
      · rw [if_neg c8] at H
        exact absurd H (by simp)
    · rw [if_neg c6] at H
      exact absurd H (by simp)
  · rw [if_neg c5] at H
    exact absurd H (by simp)

/-- THE ONE PURE STATEMENT of billetlaw03_FrameOnce: yours. -/
def billetlaw03_FrameOnce.Pure : Prop := ∀ (a0 : ByteArray) (a1 : ByteArray), a0.size ≤ 140737488351232 → a1.size ≤ 140737488351232 → ∃ k, billetlaw03_FrameOnce.f k a0 a1 = some true
theorem billetlaw03_FrameOnce.walk (P : billetlaw03_FrameOnce.Pure) (a0 : ByteArray) (a1 : ByteArray) (w : World) (w0 : a0.size ≤ 140737488351232) (w1 : a1.size ≤ 140737488351232) :
    Calls Try.prog 6 #[.string a0, .string a1] w fun e w' => e = .returned (.bool true) ∧ Below w.heap.size w w' := by
  obtain ⟨k, h⟩ := P a0 a1 w0 w1
  refine (billetlaw03_FrameOnce.calls k a0 a1 true w h).mono ?_
  rintro e w' ⟨rfl, hd⟩
  exact ⟨rfl, hd⟩

end Go.Proofs.Ytblhcbnejfmaaaa.Q
