-- Written by a program of this session (mp.py).
import Derived.Test.YtblhcbnejfmaaaaQx0
import Derived.Test.YtblhcbnejfmaaaaQx11
import Derived.Test.YtblhcbnejfmaaaaQx17
import Derived.Test.YtblhcbnejfmaaaaQx18
import Derived.Test.YtblhcbnejfmaaaaQx38
namespace Go.Proofs.Ytblhcbnejfmaaaa.Q
open Go.RowKit Go.Proofs.YtblhcbnejfmaaaaW.PrintWords Go.Proofs.YtblhcbnejfmaaaaW.PrintLast Go.Proofs.YtblhcbnejfmaaaaW.PrintMore
attribute [local go_sem] max2_int min2_int max_two min_two max_three min_three max_four min_four   -- for this text's walks alone
open Go.Proofs.Ytblhcbnejfmaaaa.Giv
set_option linter.unusedVariables false
set_option linter.unusedSimpArgs false

/-! ### billetlaw03_FrameCut: function 4 -/
def billetlaw03_FrameCut.j0 : Nat → Int → ByteArray → Bool → Option (Bool)
  | 0, _, _, _ => none
  | k + 1, x1, x6, x31 => if x31 = true then (some false) else ((billetlaw03_pick.f x1 (x6.size : Int)).bind fun t275 => (if 0 ≤ t275 then (if t275 ≤ (x6.size : Int) then ((frame_Take.f k (x6.extract 0 (t275 : Int).toNat)).bind fun bt276 => (if bt276.1.toList = ([] : List UInt8) then (if bt276.2.1 = 0 then (some (bt276.2.2 == 30)) else (some false)) else (some false))) else (none)) else (none)))
def billetlaw03_FrameCut.f (k : Nat) (a0 : ByteArray) (a1 : Int) : Option (Bool) := (billetlaw03_awake.f k).bind fun t272 => (if 0 ≤ (mn (a0.size : Int) 4096) then (if (mn (a0.size : Int) 4096) ≤ (a0.size : Int) then ((frame_Lay.f k (a0.extract 0 ((mn (a0.size : Int) 4096) : Int).toNat)).bind fun bt273 => (if t272 = true then (if bt273.2 = 0 then (billetlaw03_FrameCut.j0 k a1 bt273.1 (decide ((bt273.1.size : Int) < 5))) else (billetlaw03_FrameCut.j0 k a1 bt273.1 true)) else (billetlaw03_FrameCut.j0 k a1 bt273.1 true))) else (none)) else (none))
theorem billetlaw03_FrameCut.mono_l : ∀ k, (∀ y0 y1 y2, LeO (billetlaw03_FrameCut.j0 k y0 y1 y2) (billetlaw03_FrameCut.j0 (k + 1) y0 y1 y2))
  | 0 => fun _ _ _ r h => by simp [billetlaw03_FrameCut.j0] at h
  | k + 1 => by
    have ih0 := billetlaw03_FrameCut.mono_l k
    · intro y0 y1 y2
      unfold billetlaw03_FrameCut.j0
      repeat' first
      | (with_reducible exact ih0 _ _ _)
      | (with_reducible exact billetlaw03_awake.mono _)
      | (with_reducible exact frame_Lay.mono _ _)
      | (with_reducible exact frame_Take.mono _ _)
      | (with_reducible exact LeO.refl _)
      | (with_reducible exact LeO.none _)
      | (with_reducible refine LeO.ite ?_ ?_)
      | (with_reducible refine LeO.bind ?_ (fun _ => ?_))
      | exact ih0 _ _ _
      | exact billetlaw03_awake.mono _
      | exact frame_Lay.mono _ _
      | exact frame_Take.mono _ _
      | exact LeO.none _
      | refine LeO.ite ?_ ?_
      | refine LeO.bind ?_ (fun _ => ?_)
theorem billetlaw03_FrameCut.mono : ∀ a0 a1 k, LeO (billetlaw03_FrameCut.f k a0 a1) (billetlaw03_FrameCut.f (k + 1) a0 a1) := by
  intro a0 a1 k
  have ih0 := billetlaw03_FrameCut.mono_l k
  unfold billetlaw03_FrameCut.f
  repeat' first
      | (with_reducible exact ih0 _ _ _)
      | (with_reducible exact billetlaw03_awake.mono _)
      | (with_reducible exact frame_Lay.mono _ _)
      | (with_reducible exact frame_Take.mono _ _)
      | (with_reducible exact LeO.refl _)
      | (with_reducible exact LeO.none _)
      | (with_reducible refine LeO.ite ?_ ?_)
      | (with_reducible refine LeO.bind ?_ (fun _ => ?_))
      | exact ih0 _ _ _
      | exact billetlaw03_awake.mono _
      | exact frame_Lay.mono _ _
      | exact frame_Take.mono _ _
      | exact LeO.none _
      | refine LeO.ite ?_ ?_
      | refine LeO.bind ?_ (fun _ => ?_)
set_option maxHeartbeats 8000000 in
set_option maxRecDepth 100000 in
theorem billetlaw03_FrameCut.calls (k : Nat) (a0 : ByteArray) (a1 : Int) (r : Bool) (w : World) (h : billetlaw03_FrameCut.f k a0 a1 = some r) :
    Calls Try.prog 4 #[.string a0, .int .i64 a1] w fun e w' => e = .returned (.bool r) ∧ Below w.heap.size w w' := by
  have HB := Aside0.mk (Below.refl w.heap.size w)
  have H : ((billetlaw03_awake.f k).bind fun t272 => (if 0 ≤ (mn (a0.size : Int) 4096) then (if (mn (a0.size : Int) 4096) ≤ (a0.size : Int) then ((frame_Lay.f k (a0.extract 0 ((mn (a0.size : Int) 4096) : Int).toNat)).bind fun bt273 => (if t272 = true then (if bt273.2 = 0 then (billetlaw03_FrameCut.j0 k a1 bt273.1 (decide ((bt273.1.size : Int) < 5))) else (billetlaw03_FrameCut.j0 k a1 bt273.1 true)) else (billetlaw03_FrameCut.j0 k a1 bt273.1 true))) else (none)) else (none))) = some r := h
  clear h
  replace H := Option.bind_eq_some_iff.mp H
  obtain ⟨t272, A30, H⟩ := H
  replace H : (if 0 ≤ (mn (a0.size : Int) 4096) then (if (mn (a0.size : Int) 4096) ≤ (a0.size : Int) then ((frame_Lay.f k (a0.extract 0 ((mn (a0.size : Int) 4096) : Int).toNat)).bind fun bt273 => (if t272 = true then (if bt273.2 = 0 then (billetlaw03_FrameCut.j0 k a1 bt273.1 (decide ((bt273.1.size : Int) < 5))) else (billetlaw03_FrameCut.j0 k a1 bt273.1 true)) else (billetlaw03_FrameCut.j0 k a1 bt273.1 true))) else (none)) else (none)) = some r := H
  have A3 := Aside0.mk A30
  clear A30
  obtain ⟨ji4, hji4⟩ : ∃ j_ : Int, (mn (a0.size : Int) 4096) = j_ := ⟨_, rfl⟩
  replace H : (if 0 ≤ (ji4) then (if (ji4) ≤ (a0.size : Int) then ((frame_Lay.f k (a0.extract 0 ((ji4) : Int).toNat)).bind fun bt273 => (if t272 = true then (if bt273.2 = 0 then (billetlaw03_FrameCut.j0 k a1 bt273.1 (decide ((bt273.1.size : Int) < 5))) else (billetlaw03_FrameCut.j0 k a1 bt273.1 true)) else (billetlaw03_FrameCut.j0 k a1 bt273.1 true))) else (none)) else (none)) = some r := by first | (rw [hji4] at H; exact H) | (simp only [hji4] at H ⊢; exact H)
  (try rw [hji4] at A3)
  (try (have hji4h : ji4 ≤ 4096 := by (rw [← hji4]; unfold mn; (repeat' split) <;> omega)))
  (try (have hji4g : ji4 ≤ 64 := by omega))
  (try (have hji4l : 0 ≤ ji4 := by (rw [← hji4]; unfold mn; (repeat' split) <;> omega)))
  (try (have hji4m : 0 ≤ ji4 := by omega))
  have hji4_ : (if 4096 < (a0.size : Int) then 4096 else (a0.size : Int)) = ji4 := hji4
  by_cases c5 : 0 ≤ (ji4)
  · rw [if_pos c5] at H
    have c5b0 := eq_true c5
    have c5b1 : decide (0 ≤ (ji4)) = true := decide_eq_true c5
    clear c5
    by_cases c6 : (ji4) ≤ (a0.size : Int)
    · rw [if_pos c6] at H
      (try have hle_ji4 := c6)
      (try have hmx_ji4 : max ji4 0 = ji4 := by omega)
      have c6b0 := eq_true c6
      have c6b1 : decide ((ji4) ≤ (a0.size : Int)) = true := decide_eq_true c6
      clear c6
      replace H := Option.bind_eq_some_iff.mp H
      obtain ⟨⟨t273, t274⟩, A70, H⟩ := H
      replace H : (if t272 = true then (if t274 = 0 then (billetlaw03_FrameCut.j0 k a1 t273 (decide ((t273.size : Int) < 5))) else (billetlaw03_FrameCut.j0 k a1 t273 true)) else (billetlaw03_FrameCut.j0 k a1 t273 true)) = some r := H
      have A7 := Aside0.mk A70
      clear A70
      have HC8 := Aside0.mk H
      clear H
      go_enter Try.func4, Try.ntmps4
      go_upto_region 3 with (first | ((with_reducible refine gate_callee (f := 10) rfl ?_); refine goesL_ (some 11) rfl rfl Try.func10 (by kernel_rfl) rfl #[] rfl (by (try simp only [List.map_toArray, List.map_cons, List.map_nil]); first | done | rfl | (simp only [List.length_drop, List.length_take]; rfl)) ?_; (with_reducible refine (billetlaw03_awake.calls k  t272 _ A3.out).mono ?_); rintro e w9 ⟨rfl, hb⟩; refine ⟨_, rfl, ?_⟩; have n0_ := Aside0.mk (below_step (by repeat (first | (with_reducible first | exact HB.out | apply below_alloc | apply pw_below_drewN | apply below_drew1) | exact HB.out)) hb); clear HB; have HB := n0_; clear n0_; (try clear hb); (try clear hb2); (try clear hk); (try clear hi)) | ((with_reducible refine gate_callee (f := 11) rfl ?_); refine goesL_ (some 18) rfl rfl Try.func11 (by kernel_rfl) rfl #[.string (a0.extract 0 ((ji4) : Int).toNat)] rfl (by (try simp only [List.map_toArray, List.map_cons, List.map_nil]); first | done | (simp only [hji4]; rfl) | rfl | (simp only [List.length_drop, List.length_take]; rfl)) ?_; (with_reducible refine (frame_Lay.calls k (a0.extract 0 ((ji4) : Int).toNat) t273 t274 _ A7.out).mono ?_); rintro e w10 ⟨rfl, hb⟩; refine ⟨_, rfl, ?_⟩; have n0_ := Aside0.mk (below_step (by repeat (first | (with_reducible first | exact HB.out | apply below_alloc | apply pw_below_drewN | apply below_drew1) | exact HB.out)) hb); clear HB; have HB := n0_; clear n0_; (try clear hb); (try clear hb2); (try clear hk); (try clear hi)))
      (try simp only [Act.put, List.setIfInBounds_toArray, List.set_cons_zero, List.set_cons_succ])
      go_cut [31] (fun v31 wc => ∃ (kq : Nat) (x31_7 : Bool), v31 = .bool x31_7 ∧ Aside0 (billetlaw03_FrameCut.j0 kq a1 t273 x31_7 = some r) ∧ Aside0 (kq ≤ k) ∧ Aside0 (Below w.heap.size w wc))
      case first =>
        have H := HC8.out
        clear HC8
        by_cases c11 : t272 = true
        · subst c11
          have H1 : (if t274 = 0 then (billetlaw03_FrameCut.j0 k a1 t273 (decide ((t273.size : Int) < 5))) else (billetlaw03_FrameCut.j0 k a1 t273 true)) = some r := by rw [if_pos rfl] at H; exact H
          clear H
          have H := H1
          clear H1
          by_cases c12 : t274 = 0
          · rw [if_pos c12] at H
            have c12b0 : (t274 == 0) = true := beq_iff_eq.mpr c12
            have c12b1 : (t274 != 0) = false := bne_eq_false_iff_eq.mpr c12
            clear c12
            (first | rw [c12b0] | (simp only [i64_w, i32_w]; rw [c12b0]) | skip)
            have H' := Aside0.mk H
            clear H
            go_wp2
            go_meet
            case rel => exact ⟨_, (decide ((t273.size : Int) < 5)), (by first | rfl | (simp; done) | (simp [*]; done)), H', ⟨by first | omega | exact Nat.le_refl _⟩, ⟨by repeat (first | (with_reducible first | exact HB.out | apply below_alloc | apply pw_below_drewN | apply below_drew1) | exact HB.out)⟩⟩
          · rw [if_neg c12] at H
            have c12b0 : (t274 == 0) = false := beq_eq_false_iff_ne.mpr c12
            have c12b1 : (t274 != 0) = true := bne_iff_ne.mpr c12
            (first | rw [c12b0] | (simp only [i64_w, i32_w]; rw [c12b0]) | skip)
            have H' := Aside0.mk H
            clear H
            go_wp2
            go_meet
            case rel => exact ⟨_, (true), (by first | rfl | (simp; done) | (simp [*]; done)), H', ⟨by first | omega | exact Nat.le_refl _⟩, ⟨by repeat (first | (with_reducible first | exact HB.out | apply below_alloc | apply pw_below_drewN | apply below_drew1) | exact HB.out)⟩⟩
        · replace c11 := Bool.eq_false_iff.mpr c11
          subst c11
          have H1 : (billetlaw03_FrameCut.j0 k a1 t273 true) = some r := by rw [if_neg (show ¬ (false = true) by decide)] at H; exact H
          clear H
          have H := H1
          clear H1
          have H' := Aside0.mk H
          clear H
          go_wp2
          go_meet
          case rel => exact ⟨_, (true), (by first | rfl | (simp; done) | (simp [*]; done)), H', ⟨by first | omega | exact Nat.le_refl _⟩, ⟨by repeat (first | (with_reducible first | exact HB.out | apply below_alloc | apply pw_below_drewN | apply below_drew1) | exact HB.out)⟩⟩
      case rest =>
        clear HC8
        try clear c1
        try clear p2
        try clear c4
        try clear c5
        try clear c5b0
        try clear c5b1
        try clear c6
        try clear c6b0
        try clear c6b1
        try clear c10
        try clear c11
        try clear c12
        try clear c12b0
        try clear c12b1
        obtain ⟨kq, x31_7, rfl, HA, HJ7, HB⟩ := hcut
        cases kq with
        | zero => exact absurd HA.out (by simp [billetlaw03_FrameCut.j0])
        | succ kj7 =>
          have H := HA.out
          clear HA
          simp only [billetlaw03_FrameCut.j0] at H
          by_cases c13 : x31_7 = true
          · subst c13
            have H1 : (some false) = some r := by rw [if_pos rfl] at H; exact H
            clear H
            have H := H1
            clear H1
            obtain rfl := Option.some.inj H
            go_wp2
            go_ret
            exact ⟨by first | rfl | (simp [errW_none, errW_some] <;> rfl) | (simp only [← hji4]; first | rfl | (simp [errW_none, errW_some] <;> rfl)) | (simp [*, errW_none, errW_some] <;> rfl), by repeat (first | (with_reducible first | exact HB.out | apply below_alloc | apply pw_below_drewN | apply below_drew1) | exact HB.out)⟩
          · replace c13 := Bool.eq_false_iff.mpr c13
            subst c13
            have H1 : ((billetlaw03_pick.f a1 (t273.size : Int)).bind fun t275 => (if 0 ≤ t275 then (if t275 ≤ (t273.size : Int) then ((frame_Take.f kj7 (t273.extract 0 (t275 : Int).toNat)).bind fun bt276 => (if bt276.1.toList = ([] : List UInt8) then (if bt276.2.1 = 0 then (some (bt276.2.2 == 30)) else (some false)) else (some false))) else (none)) else (none))) = some r := by rw [if_neg (show ¬ (false = true) by decide)] at H; exact H
            clear H
            have H := H1
            clear H1
            replace H := Option.bind_eq_some_iff.mp H
            obtain ⟨t275, A140, H⟩ := H
            replace H : (if 0 ≤ t275 then (if t275 ≤ (t273.size : Int) then ((frame_Take.f kj7 (t273.extract 0 (t275 : Int).toNat)).bind fun bt276 => (if bt276.1.toList = ([] : List UInt8) then (if bt276.2.1 = 0 then (some (bt276.2.2 == 30)) else (some false)) else (some false))) else (none)) else (none)) = some r := H
            have A14 := Aside0.mk A140
            clear A140
            by_cases c15 : 0 ≤ t275
            · rw [if_pos c15] at H
              have c15b0 := eq_true c15
              have c15b1 : decide (0 ≤ t275) = true := decide_eq_true c15
              clear c15
              by_cases c16 : t275 ≤ (t273.size : Int)
              · rw [if_pos c16] at H
                have c16b0 := eq_true c16
                have c16b1 : decide (t275 ≤ (t273.size : Int)) = true := decide_eq_true c16
                clear c16
                replace H := Option.bind_eq_some_iff.mp H
                obtain ⟨⟨t276, t277, t278⟩, A170, H⟩ := H
                replace H : (if t276.toList = ([] : List UInt8) then (if t277 = 0 then (some (t278 == 30)) else (some false)) else (some false)) = some r := H
                have A17 := Aside0.mk A170
                clear A170
                by_cases c18 : t276.toList = ([] : List UInt8)
                · rw [if_pos c18] at H
                  have c18b0 : (t276.toList == ([] : List UInt8)) = true := beq_iff_eq.mpr c18
                  have c18b1 : (t276.toList != ([] : List UInt8)) = false := bne_eq_false_iff_eq.mpr c18
                  clear c18
                  by_cases c19 : t277 = 0
                  · rw [if_pos c19] at H
                    have c19b0 : (t277 == 0) = true := beq_iff_eq.mpr c19
                    have c19b1 : (t277 != 0) = false := bne_eq_false_iff_eq.mpr c19
                    clear c19
                    obtain rfl := Option.some.inj H
                    go_wp2_with (first | ((with_reducible refine gate_callee (f := 13) rfl ?_); refine goesL_ (some 37) rfl rfl Try.func13 (by kernel_rfl) rfl #[.int .i64 a1, .int .i64 (t273.size : Int)] rfl (by (try simp only [List.map_toArray, List.map_cons, List.map_nil]); first | done | rfl | (simp only [List.length_drop, List.length_take]; rfl)) ?_; (with_reducible refine (billetlaw03_pick.calls a1 (t273.size : Int) t275 _ A14.out).mono ?_); rintro e w' ⟨rfl, ⟨nd, rfl⟩⟩; refine ⟨_, rfl, ?_⟩) | ((with_reducible refine gate_callee (f := 12) rfl ?_); refine goesL_ (some 39) rfl rfl Try.func12 (by kernel_rfl) rfl #[.string (t273.extract 0 (t275 : Int).toNat)] rfl (by (try simp only [List.map_toArray, List.map_cons, List.map_nil]); first | done | rfl | (simp only [List.length_drop, List.length_take]; rfl)) ?_; (with_reducible refine (frame_Take.calls kj7 (t273.extract 0 (t275 : Int).toNat) t276 t277 t278 _ A17.out).mono ?_); rintro e w20 ⟨rfl, hb⟩; refine ⟨_, rfl, ?_⟩; have n0_ := Aside0.mk (below_step (by repeat (first | (with_reducible first | exact HB.out | apply below_alloc | apply pw_below_drewN | apply below_drew1) | exact HB.out)) hb); clear HB; have HB := n0_; clear n0_; (try clear hb); (try clear hb2); (try clear hk); (try clear hi)))
                    go_ret
                    exact ⟨by first | rfl | (simp [errW_none, errW_some] <;> rfl) | (simp only [← hji4]; first | rfl | (simp [errW_none, errW_some] <;> rfl)) | (simp [*, errW_none, errW_some] <;> rfl), by repeat (first | (with_reducible first | exact HB.out | apply below_alloc | apply pw_below_drewN | apply below_drew1) | exact HB.out)⟩
                  · rw [if_neg c19] at H
                    have c19b0 : (t277 == 0) = false := beq_eq_false_iff_ne.mpr c19
                    have c19b1 : (t277 != 0) = true := bne_iff_ne.mpr c19
                    obtain rfl := Option.some.inj H
                    go_wp2_with (first | ((with_reducible refine gate_callee (f := 13) rfl ?_); refine goesL_ (some 37) rfl rfl Try.func13 (by kernel_rfl) rfl #[.int .i64 a1, .int .i64 (t273.size : Int)] rfl (by (try simp only [List.map_toArray, List.map_cons, List.map_nil]); first | done | rfl | (simp only [List.length_drop, List.length_take]; rfl)) ?_; (with_reducible refine (billetlaw03_pick.calls a1 (t273.size : Int) t275 _ A14.out).mono ?_); rintro e w' ⟨rfl, ⟨nd, rfl⟩⟩; refine ⟨_, rfl, ?_⟩) | ((with_reducible refine gate_callee (f := 12) rfl ?_); refine goesL_ (some 39) rfl rfl Try.func12 (by kernel_rfl) rfl #[.string (t273.extract 0 (t275 : Int).toNat)] rfl (by (try simp only [List.map_toArray, List.map_cons, List.map_nil]); first | done | rfl | (simp only [List.length_drop, List.length_take]; rfl)) ?_; (with_reducible refine (frame_Take.calls kj7 (t273.extract 0 (t275 : Int).toNat) t276 t277 t278 _ A17.out).mono ?_); rintro e w21 ⟨rfl, hb⟩; refine ⟨_, rfl, ?_⟩; have n0_ := Aside0.mk (below_step (by repeat (first | (with_reducible first | exact HB.out | apply below_alloc | apply pw_below_drewN | apply below_drew1) | exact HB.out)) hb); clear HB; have HB := n0_; clear n0_; (try clear hb); (try clear hb2); (try clear hk); (try clear hi)))
                    go_ret
                    exact ⟨by first | rfl | (simp [errW_none, errW_some] <;> rfl) | (simp only [← hji4]; first | rfl | (simp [errW_none, errW_some] <;> rfl)) | (simp [*, errW_none, errW_some] <;> rfl), by repeat (first | (with_reducible first | exact HB.out | apply below_alloc | apply pw_below_drewN | apply below_drew1) | exact HB.out)⟩
                · rw [if_neg c18] at H
                  have c18b0 : (t276.toList == ([] : List UInt8)) = false := beq_eq_false_iff_ne.mpr c18
                  have c18b1 : (t276.toList != ([] : List UInt8)) = true := bne_iff_ne.mpr c18
                  obtain rfl := Option.some.inj H
                  go_wp2_with (first | ((with_reducible refine gate_callee (f := 13) rfl ?_); refine goesL_ (some 37) rfl rfl Try.func13 (by kernel_rfl) rfl #[.int .i64 a1, .int .i64 (t273.size : Int)] rfl (by (try simp only [List.map_toArray, List.map_cons, List.map_nil]); first | done | rfl | (simp only [List.length_drop, List.length_take]; rfl)) ?_; (with_reducible refine (billetlaw03_pick.calls a1 (t273.size : Int) t275 _ A14.out).mono ?_); rintro e w' ⟨rfl, ⟨nd, rfl⟩⟩; refine ⟨_, rfl, ?_⟩) | ((with_reducible refine gate_callee (f := 12) rfl ?_); refine goesL_ (some 39) rfl rfl Try.func12 (by kernel_rfl) rfl #[.string (t273.extract 0 (t275 : Int).toNat)] rfl (by (try simp only [List.map_toArray, List.map_cons, List.map_nil]); first | done | rfl | (simp only [List.length_drop, List.length_take]; rfl)) ?_; (with_reducible refine (frame_Take.calls kj7 (t273.extract 0 (t275 : Int).toNat) t276 t277 t278 _ A17.out).mono ?_); rintro e w22 ⟨rfl, hb⟩; refine ⟨_, rfl, ?_⟩; have n0_ := Aside0.mk (below_step (by repeat (first | (with_reducible first | exact HB.out | apply below_alloc | apply pw_below_drewN | apply below_drew1) | exact HB.out)) hb); clear HB; have HB := n0_; clear n0_; (try clear hb); (try clear hb2); (try clear hk); (try clear hi)))
                  go_ret
                  exact ⟨by first | rfl | (simp [errW_none, errW_some] <;> rfl) | (simp only [← hji4]; first | rfl | (simp [errW_none, errW_some] <;> rfl)) | (simp [*, errW_none, errW_some] <;> rfl), by repeat (first | (with_reducible first | exact HB.out | apply below_alloc | apply pw_below_drewN | apply below_drew1) | exact HB.out)⟩
              · rw [if_neg c16] at H
                exact absurd H (by simp)
            · rw [if_neg c15] at H
              exact absurd H (by simp)
    · rw [if_neg c6] at H
      exact absurd H (by simp)
  · rw [if_neg c5] at H
    exact absurd H (by simp)

/-- THE ONE PURE STATEMENT of billetlaw03_FrameCut: yours. -/
def billetlaw03_FrameCut.Pure : Prop := ∀ (a0 : ByteArray) (a1 : Int), a0.size ≤ 140737488351232 → (Lit.int .i64 a1).wf = true → ∃ k, billetlaw03_FrameCut.f k a0 a1 = some true
theorem billetlaw03_FrameCut.walk (P : billetlaw03_FrameCut.Pure) (a0 : ByteArray) (a1 : Int) (w : World) (w0 : a0.size ≤ 140737488351232) (w1 : (Lit.int .i64 a1).wf = true) :
    Calls Try.prog 4 #[.string a0, .int .i64 a1] w fun e w' => e = .returned (.bool true) ∧ Below w.heap.size w w' := by
  obtain ⟨k, h⟩ := P a0 a1 w0 w1
  refine (billetlaw03_FrameCut.calls k a0 a1 true w h).mono ?_
  rintro e w' ⟨rfl, hd⟩
  exact ⟨rfl, hd⟩

end Go.Proofs.Ytblhcbnejfmaaaa.Q
