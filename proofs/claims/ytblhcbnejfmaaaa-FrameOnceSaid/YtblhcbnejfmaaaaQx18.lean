-- Written by a program of this session (mp.py).
import Derived.Test.YtblhcbnejfmaaaaQx0
import Derived.Test.YtblhcbnejfmaaaaQx11
import Derived.Test.YtblhcbnejfmaaaaQx17
namespace Go.Proofs.Ytblhcbnejfmaaaa.Q
open Go.RowKit Go.Proofs.YtblhcbnejfmaaaaW.PrintWords Go.Proofs.YtblhcbnejfmaaaaW.PrintLast Go.Proofs.YtblhcbnejfmaaaaW.PrintMore
attribute [local go_sem] max2_int min2_int max_two min_two max_three min_three max_four min_four   -- for this text's walks alone
open Go.Proofs.Ytblhcbnejfmaaaa.Giv
set_option linter.unusedVariables false
set_option linter.unusedSimpArgs false

/-! ### billetlaw03_awake: function 10 -/
def billetlaw03_awake.j0 : Nat → ByteArray → Bool → Option (Bool)
  | 0, _, _ => none
  | k + 1, x1, x19 => if x19 = true then (some false) else ((frame_Take.f k x1).bind fun bt166 => (if 0 ≤ 5 then (if 5 ≤ (x1.size : Int) then ((frame_Take.f k (x1.extract 0 5)).bind fun bt169 => (if 0 ≤ 2 then (if 2 ≤ (x1.size : Int) then (if (x1.extract 0 2).toList = ([2, 97] : List UInt8) then (if bt166.1.toList = ([97] : List UInt8) then (if bt166.2.1 = 6 then (if bt166.2.2 = 0 then (some (bt169.2.2 == 30)) else (some false)) else (some false)) else (some false)) else (some false)) else (none)) else (none))) else (none)) else (none)))
def billetlaw03_awake.f (k : Nat)  : Option (Bool) := (frame_Lay.f k (⟨#[97]⟩ : ByteArray)).bind fun bt164 => (if bt164.2 = 0 then (billetlaw03_awake.j0 k bt164.1 ((bt164.1.size : Int) != 6)) else (billetlaw03_awake.j0 k bt164.1 true))
theorem billetlaw03_awake.mono_l : ∀ k, (∀ y0 y1, LeO (billetlaw03_awake.j0 k y0 y1) (billetlaw03_awake.j0 (k + 1) y0 y1))
  | 0 => fun _ _ r h => by simp [billetlaw03_awake.j0] at h
  | k + 1 => by
    have ih0 := billetlaw03_awake.mono_l k
    · intro y0 y1
      unfold billetlaw03_awake.j0
      repeat' first
      | (with_reducible exact ih0 _ _)
      | (with_reducible exact frame_Lay.mono _ _)
      | (with_reducible exact frame_Take.mono _ _)
      | (with_reducible exact LeO.refl _)
      | (with_reducible exact LeO.none _)
      | (with_reducible refine LeO.ite ?_ ?_)
      | (with_reducible refine LeO.bind ?_ (fun _ => ?_))
      | exact ih0 _ _
      | exact frame_Lay.mono _ _
      | exact frame_Take.mono _ _
      | exact LeO.none _
      | refine LeO.ite ?_ ?_
      | refine LeO.bind ?_ (fun _ => ?_)
theorem billetlaw03_awake.mono : ∀ k, LeO (billetlaw03_awake.f k ) (billetlaw03_awake.f (k + 1) ) := by
  intro  k
  have ih0 := billetlaw03_awake.mono_l k
  unfold billetlaw03_awake.f
  repeat' first
      | (with_reducible exact ih0 _ _)
      | (with_reducible exact frame_Lay.mono _ _)
      | (with_reducible exact frame_Take.mono _ _)
      | (with_reducible exact LeO.refl _)
      | (with_reducible exact LeO.none _)
      | (with_reducible refine LeO.ite ?_ ?_)
      | (with_reducible refine LeO.bind ?_ (fun _ => ?_))
      | exact ih0 _ _
      | exact frame_Lay.mono _ _
      | exact frame_Take.mono _ _
      | exact LeO.none _
      | refine LeO.ite ?_ ?_
      | refine LeO.bind ?_ (fun _ => ?_)
set_option maxHeartbeats 8000000 in
set_option maxRecDepth 100000 in
theorem billetlaw03_awake.calls (k : Nat)  (r : Bool) (w : World) (h : billetlaw03_awake.f k  = some r) :
    Calls Try.prog 10 #[] w fun e w' => e = .returned (.bool r) ∧ Below w.heap.size w w' := by
  have HB := Aside0.mk (Below.refl w.heap.size w)
  have H : ((frame_Lay.f k (⟨#[97]⟩ : ByteArray)).bind fun bt164 => (if bt164.2 = 0 then (billetlaw03_awake.j0 k bt164.1 ((bt164.1.size : Int) != 6)) else (billetlaw03_awake.j0 k bt164.1 true))) = some r := h
  clear h
  replace H := Option.bind_eq_some_iff.mp H
  obtain ⟨⟨t164, t165⟩, A10, H⟩ := H
  replace H : (if t165 = 0 then (billetlaw03_awake.j0 k t164 ((t164.size : Int) != 6)) else (billetlaw03_awake.j0 k t164 true)) = some r := H
  have A1 := Aside0.mk A10
  clear A10
  have HC2 := Aside0.mk H
  clear H
  go_enter Try.func10, Try.ntmps10
  go_upto_region 2 with (first | ((with_reducible refine gate_callee (f := 11) rfl ?_); refine goesL_ (some 10) rfl rfl Try.func11 (by kernel_rfl) rfl #[.string (⟨#[97]⟩ : ByteArray)] rfl (by (try simp only [List.map_toArray, List.map_cons, List.map_nil]); first | done | rfl | (simp only [List.length_drop, List.length_take]; rfl)) ?_; (with_reducible refine (frame_Lay.calls k (⟨#[97]⟩ : ByteArray) t164 t165 _ A1.out).mono ?_); rintro e w3 ⟨rfl, hb⟩; refine ⟨_, rfl, ?_⟩; have n0_ := Aside0.mk (below_step (by repeat (first | (with_reducible first | exact HB.out | apply below_alloc | apply pw_below_drewN | apply below_drew1) | exact HB.out)) hb); clear HB; have HB := n0_; clear n0_; (try clear hb); (try clear hb2); (try clear hk); (try clear hi)))
  (try simp only [Act.put, List.setIfInBounds_toArray, List.set_cons_zero, List.set_cons_succ])
  go_cut [19] (fun v19 wc => ∃ (kq : Nat) (x19_1 : Bool), v19 = .bool x19_1 ∧ Aside0 (billetlaw03_awake.j0 kq t164 x19_1 = some r) ∧ Aside0 (kq ≤ k) ∧ Aside0 (Below w.heap.size w wc))
  case first =>
    have H := HC2.out
    clear HC2
    by_cases c4 : t165 = 0
    · rw [if_pos c4] at H
      have c4b0 : (t165 == 0) = true := beq_iff_eq.mpr c4
      have c4b1 : (t165 != 0) = false := bne_eq_false_iff_eq.mpr c4
      clear c4
      (first | rw [c4b0] | (simp only [i64_w, i32_w]; rw [c4b0]) | skip)
      have H' := Aside0.mk H
      clear H
      go_wp2
      go_meet
      case rel => exact ⟨_, (((t164.size : Int) != 6)), (by first | rfl | (simp; done) | (simp [*]; done)), H', ⟨by first | omega | exact Nat.le_refl _⟩, ⟨by repeat (first | (with_reducible first | exact HB.out | apply below_alloc | apply pw_below_drewN | apply below_drew1) | exact HB.out)⟩⟩
    · rw [if_neg c4] at H
      have c4b0 : (t165 == 0) = false := beq_eq_false_iff_ne.mpr c4
      have c4b1 : (t165 != 0) = true := bne_iff_ne.mpr c4
      (first | rw [c4b0] | (simp only [i64_w, i32_w]; rw [c4b0]) | skip)
      have H' := Aside0.mk H
      clear H
      go_wp2
      go_meet
      case rel => exact ⟨_, (true), (by first | rfl | (simp; done) | (simp [*]; done)), H', ⟨by first | omega | exact Nat.le_refl _⟩, ⟨by repeat (first | (with_reducible first | exact HB.out | apply below_alloc | apply pw_below_drewN | apply below_drew1) | exact HB.out)⟩⟩
  case rest =>
    clear HC2
    try clear c1
    try clear p2
    try clear c4
    try clear c4b0
    try clear c4b1
    obtain ⟨kq, x19_1, rfl, HA, HJ1, HB⟩ := hcut
    cases kq with
    | zero => exact absurd HA.out (by simp [billetlaw03_awake.j0])
    | succ kj1 =>
      have H := HA.out
      clear HA
      simp only [billetlaw03_awake.j0] at H
      by_cases c5 : x19_1 = true
      · subst c5
        have H1 : (some false) = some r := by rw [if_pos rfl] at H; exact H
        clear H
        have H := H1
        clear H1
        obtain rfl := Option.some.inj H
        go_wp2
        go_ret
        exact ⟨by first | rfl | (simp [errW_none, errW_some] <;> rfl) | (simp [*, errW_none, errW_some] <;> rfl), by repeat (first | (with_reducible first | exact HB.out | apply below_alloc | apply pw_below_drewN | apply below_drew1) | exact HB.out)⟩
      · replace c5 := Bool.eq_false_iff.mpr c5
        subst c5
        have H1 : ((frame_Take.f kj1 t164).bind fun bt166 => (if 0 ≤ 5 then (if 5 ≤ (t164.size : Int) then ((frame_Take.f kj1 (t164.extract 0 5)).bind fun bt169 => (if 0 ≤ 2 then (if 2 ≤ (t164.size : Int) then (if (t164.extract 0 2).toList = ([2, 97] : List UInt8) then (if bt166.1.toList = ([97] : List UInt8) then (if bt166.2.1 = 6 then (if bt166.2.2 = 0 then (some (bt169.2.2 == 30)) else (some false)) else (some false)) else (some false)) else (some false)) else (none)) else (none))) else (none)) else (none))) = some r := by rw [if_neg (show ¬ (false = true) by decide)] at H; exact H
        clear H
        have H := H1
        clear H1
        replace H := Option.bind_eq_some_iff.mp H
        obtain ⟨⟨t166, t167, t168⟩, A60, H⟩ := H
        replace H : (if 0 ≤ 5 then (if 5 ≤ (t164.size : Int) then ((frame_Take.f kj1 (t164.extract 0 5)).bind fun bt169 => (if 0 ≤ 2 then (if 2 ≤ (t164.size : Int) then (if (t164.extract 0 2).toList = ([2, 97] : List UInt8) then (if t166.toList = ([97] : List UInt8) then (if t167 = 6 then (if t168 = 0 then (some (bt169.2.2 == 30)) else (some false)) else (some false)) else (some false)) else (some false)) else (none)) else (none))) else (none)) else (none)) = some r := H
        have A6 := Aside0.mk A60
        clear A60
        by_cases c7 : 0 ≤ 5
        · rw [if_pos c7] at H
          have c7b0 := eq_true c7
          have c7b1 : decide (0 ≤ 5) = true := decide_eq_true c7
          clear c7
          by_cases c8 : 5 ≤ (t164.size : Int)
          · rw [if_pos c8] at H
            have c8b0 := eq_true c8
            have c8b1 : decide (5 ≤ (t164.size : Int)) = true := decide_eq_true c8
            clear c8
            replace H := Option.bind_eq_some_iff.mp H
            obtain ⟨⟨t169, t170, t171⟩, A90, H⟩ := H
            replace H : (if 0 ≤ 2 then (if 2 ≤ (t164.size : Int) then (if (t164.extract 0 2).toList = ([2, 97] : List UInt8) then (if t166.toList = ([97] : List UInt8) then (if t167 = 6 then (if t168 = 0 then (some (t171 == 30)) else (some false)) else (some false)) else (some false)) else (some false)) else (none)) else (none)) = some r := H
            have A9 := Aside0.mk A90
            clear A90
            by_cases c10 : 0 ≤ 2
            · rw [if_pos c10] at H
              have c10b0 := eq_true c10
              have c10b1 : decide (0 ≤ 2) = true := decide_eq_true c10
              clear c10
              by_cases c11 : 2 ≤ (t164.size : Int)
              · rw [if_pos c11] at H
                have c11b0 := eq_true c11
                have c11b1 : decide (2 ≤ (t164.size : Int)) = true := decide_eq_true c11
                clear c11
                by_cases c12 : (t164.extract 0 2).toList = ([2, 97] : List UInt8)
                · rw [if_pos c12] at H
                  have c12b0 : ((t164.extract 0 2).toList == ([2, 97] : List UInt8)) = true := beq_iff_eq.mpr c12
                  have c12b1 : ((t164.extract 0 2).toList != ([2, 97] : List UInt8)) = false := bne_eq_false_iff_eq.mpr c12
                  clear c12
                  by_cases c13 : t166.toList = ([97] : List UInt8)
                  · rw [if_pos c13] at H
                    have c13b0 : (t166.toList == ([97] : List UInt8)) = true := beq_iff_eq.mpr c13
                    have c13b1 : (t166.toList != ([97] : List UInt8)) = false := bne_eq_false_iff_eq.mpr c13
                    clear c13
                    by_cases c14 : t167 = 6
                    · rw [if_pos c14] at H
                      have c14b0 : (t167 == 6) = true := beq_iff_eq.mpr c14
                      have c14b1 : (t167 != 6) = false := bne_eq_false_iff_eq.mpr c14
                      clear c14
                      by_cases c15 : t168 = 0
                      · rw [if_pos c15] at H
                        have c15b0 : (t168 == 0) = true := beq_iff_eq.mpr c15
                        have c15b1 : (t168 != 0) = false := bne_eq_false_iff_eq.mpr c15
                        clear c15
                        obtain rfl := Option.some.inj H
                        go_wp2_with (first | ((with_reducible refine gate_callee (f := 12) rfl ?_); refine goesL_ (some 22) rfl rfl Try.func12 (by kernel_rfl) rfl #[.string t164] rfl (by (try simp only [List.map_toArray, List.map_cons, List.map_nil]); first | done | rfl | (simp only [List.length_drop, List.length_take]; rfl)) ?_; (with_reducible refine (frame_Take.calls kj1 t164 t166 t167 t168 _ A6.out).mono ?_); rintro e w16 ⟨rfl, hb⟩; refine ⟨_, rfl, ?_⟩; have n0_ := Aside0.mk (below_step (by repeat (first | (with_reducible first | exact HB.out | apply below_alloc | apply pw_below_drewN | apply below_drew1) | exact HB.out)) hb); clear HB; have HB := n0_; clear n0_; (try clear hb); (try clear hb2); (try clear hk); (try clear hi)) | ((with_reducible refine gate_callee (f := 12) rfl ?_); refine goesL_ (some 29) rfl rfl Try.func12 (by kernel_rfl) rfl #[.string (t164.extract 0 5)] rfl (by (try simp only [List.map_toArray, List.map_cons, List.map_nil]); first | done | rfl | (simp only [List.length_drop, List.length_take]; rfl)) ?_; (with_reducible refine (frame_Take.calls kj1 (t164.extract 0 5) t169 t170 t171 _ A9.out).mono ?_); rintro e w17 ⟨rfl, hb⟩; refine ⟨_, rfl, ?_⟩; have n0_ := Aside0.mk (below_step (by repeat (first | (with_reducible first | exact HB.out | apply below_alloc | apply pw_below_drewN | apply below_drew1) | exact HB.out)) hb); clear HB; have HB := n0_; clear n0_; (try clear hb); (try clear hb2); (try clear hk); (try clear hi)))
                        go_ret
                        exact ⟨by first | rfl | (simp [errW_none, errW_some] <;> rfl) | (simp [*, errW_none, errW_some] <;> rfl), by repeat (first | (with_reducible first | exact HB.out | apply below_alloc | apply pw_below_drewN | apply below_drew1) | exact HB.out)⟩
                      · rw [if_neg c15] at H
                        have c15b0 : (t168 == 0) = false := beq_eq_false_iff_ne.mpr c15
                        have c15b1 : (t168 != 0) = true := bne_iff_ne.mpr c15
                        obtain rfl := Option.some.inj H
                        go_wp2_with (first | ((with_reducible refine gate_callee (f := 12) rfl ?_); refine goesL_ (some 22) rfl rfl Try.func12 (by kernel_rfl) rfl #[.string t164] rfl (by (try simp only [List.map_toArray, List.map_cons, List.map_nil]); first | done | rfl | (simp only [List.length_drop, List.length_take]; rfl)) ?_; (with_reducible refine (frame_Take.calls kj1 t164 t166 t167 t168 _ A6.out).mono ?_); rintro e w18 ⟨rfl, hb⟩; refine ⟨_, rfl, ?_⟩; have n0_ := Aside0.mk (below_step (by repeat (first | (with_reducible first | exact HB.out | apply below_alloc | apply pw_below_drewN | apply below_drew1) | exact HB.out)) hb); clear HB; have HB := n0_; clear n0_; (try clear hb); (try clear hb2); (try clear hk); (try clear hi)) | ((with_reducible refine gate_callee (f := 12) rfl ?_); refine goesL_ (some 29) rfl rfl Try.func12 (by kernel_rfl) rfl #[.string (t164.extract 0 5)] rfl (by (try simp only [List.map_toArray, List.map_cons, List.map_nil]); first | done | rfl | (simp only [List.length_drop, List.length_take]; rfl)) ?_; (with_reducible refine (frame_Take.calls kj1 (t164.extract 0 5) t169 t170 t171 _ A9.out).mono ?_); rintro e w19 ⟨rfl, hb⟩; refine ⟨_, rfl, ?_⟩; have n0_ := Aside0.mk (below_step (by repeat (first | (with_reducible first | exact HB.out | apply below_alloc | apply pw_below_drewN | apply below_drew1) | exact HB.out)) hb); clear HB; have HB := n0_; clear n0_; (try clear hb); (try clear hb2); (try clear hk); (try clear hi)))
                        go_ret
                        exact ⟨by first | rfl | (simp [errW_none, errW_some] <;> rfl) | (simp [*, errW_none, errW_some] <;> rfl), by repeat (first | (with_reducible first | exact HB.out | apply below_alloc | apply pw_below_drewN | apply below_drew1) | exact HB.out)⟩
                    · rw [if_neg c14] at H
                      have c14b0 : (t167 == 6) = false := beq_eq_false_iff_ne.mpr c14
                      have c14b1 : (t167 != 6) = true := bne_iff_ne.mpr c14
                      obtain rfl := Option.some.inj H
                      go_wp2_with (first | ((with_reducible refine gate_callee (f := 12) rfl ?_); refine goesL_ (some 22) rfl rfl Try.func12 (by kernel_rfl) rfl #[.string t164] rfl (by (try simp only [List.map_toArray, List.map_cons, List.map_nil]); first | done | rfl | (simp only [List.length_drop, List.length_take]; rfl)) ?_; (with_reducible refine (frame_Take.calls kj1 t164 t166 t167 t168 _ A6.out).mono ?_); rintro e w20 ⟨rfl, hb⟩; refine ⟨_, rfl, ?_⟩; have n0_ := Aside0.mk (below_step (by repeat (first | (with_reducible first | exact HB.out | apply below_alloc | apply pw_below_drewN | apply below_drew1) | exact HB.out)) hb); clear HB; have HB := n0_; clear n0_; (try clear hb); (try clear hb2); (try clear hk); (try clear hi)) | ((with_reducible refine gate_callee (f := 12) rfl ?_); refine goesL_ (some 29) rfl rfl Try.func12 (by kernel_rfl) rfl #[.string (t164.extract 0 5)] rfl (by (try simp only [List.map_toArray, List.map_cons, List.map_nil]); first | done | rfl | (simp only [List.length_drop, List.length_take]; rfl)) ?_; (with_reducible refine (frame_Take.calls kj1 (t164.extract 0 5) t169 t170 t171 _ A9.out).mono ?_); rintro e w21 ⟨rfl, hb⟩; refine ⟨_, rfl, ?_⟩; have n0_ := Aside0.mk (below_step (by repeat (first | (with_reducible first | exact HB.out | apply below_alloc | apply pw_below_drewN | apply below_drew1) | exact HB.out)) hb); clear HB; have HB := n0_; clear n0_; (try clear hb); (try clear hb2); (try clear hk); (try clear hi)))
                      go_ret
                      exact ⟨by first | rfl | (simp [errW_none, errW_some] <;> rfl) | (simp [*, errW_none, errW_some] <;> rfl), by repeat (first | (with_reducible first | exact HB.out | apply below_alloc | apply pw_below_drewN | apply below_drew1) | exact HB.out)⟩
                  · rw [if_neg c13] at H
                    have c13b0 : (t166.toList == ([97] : List UInt8)) = false := beq_eq_false_iff_ne.mpr c13
                    have c13b1 : (t166.toList != ([97] : List UInt8)) = true := bne_iff_ne.mpr c13
                    obtain rfl := Option.some.inj H
                    go_wp2_with (first | ((with_reducible refine gate_callee (f := 12) rfl ?_); refine goesL_ (some 22) rfl rfl Try.func12 (by kernel_rfl) rfl #[.string t164] rfl (by (try simp only [List.map_toArray, List.map_cons, List.map_nil]); first | done | rfl | (simp only [List.length_drop, List.length_take]; rfl)) ?_; (with_reducible refine (frame_Take.calls kj1 t164 t166 t167 t168 _ A6.out).mono ?_); rintro e w22 ⟨rfl, hb⟩; refine ⟨_, rfl, ?_⟩; have n0_ := Aside0.mk (below_step (by repeat (first | (with_reducible first | exact HB.out | apply below_alloc | apply pw_below_drewN | apply below_drew1) | exact HB.out)) hb); clear HB; have HB := n0_; clear n0_; (try clear hb); (try clear hb2); (try clear hk); (try clear hi)) | ((with_reducible refine gate_callee (f := 12) rfl ?_); refine goesL_ (some 29) rfl rfl Try.func12 (by kernel_rfl) rfl #[.string (t164.extract 0 5)] rfl (by (try simp only [List.map_toArray, List.map_cons, List.map_nil]); first | done | rfl | (simp only [List.length_drop, List.length_take]; rfl)) ?_; (with_reducible refine (frame_Take.calls kj1 (t164.extract 0 5) t169 t170 t171 _ A9.out).mono ?_); rintro e w23 ⟨rfl, hb⟩; refine ⟨_, rfl, ?_⟩; have n0_ := Aside0.mk (below_step (by repeat (first | (with_reducible first | exact HB.out | apply below_alloc | apply pw_below_drewN | apply below_drew1) | exact HB.out)) hb); clear HB; have HB := n0_; clear n0_; (try clear hb); (try clear hb2); (try clear hk); (try clear hi)))
                    go_ret
                    exact ⟨by first | rfl | (simp [errW_none, errW_some] <;> rfl) | (simp [*, errW_none, errW_some] <;> rfl), by repeat (first | (with_reducible first | exact HB.out | apply below_alloc | apply pw_below_drewN | apply below_drew1) | exact HB.out)⟩
                · rw [if_neg c12] at H
                  have c12b0 : ((t164.extract 0 2).toList == ([2, 97] : List UInt8)) = false := beq_eq_false_iff_ne.mpr c12
                  have c12b1 : ((t164.extract 0 2).toList != ([2, 97] : List UInt8)) = true := bne_iff_ne.mpr c12
                  obtain rfl := Option.some.inj H
                  go_wp2_with (first | ((with_reducible refine gate_callee (f := 12) rfl ?_); refine goesL_ (some 22) rfl rfl Try.func12 (by kernel_rfl) rfl #[.string t164] rfl (by (try simp only [List.map_toArray, List.map_cons, List.map_nil]); first | done | rfl | (simp only [List.length_drop, List.length_take]; rfl)) ?_; (with_reducible refine (frame_Take.calls kj1 t164 t166 t167 t168 _ A6.out).mono ?_); rintro e w24 ⟨rfl, hb⟩; refine ⟨_, rfl, ?_⟩; have n0_ := Aside0.mk (below_step (by repeat (first | (with_reducible first | exact HB.out | apply below_alloc | apply pw_below_drewN | apply below_drew1) | exact HB.out)) hb); clear HB; have HB := n0_; clear n0_; (try clear hb); (try clear hb2); (try clear hk); (try clear hi)) | ((with_reducible refine gate_callee (f := 12) rfl ?_); refine goesL_ (some 29) rfl rfl Try.func12 (by kernel_rfl) rfl #[.string (t164.extract 0 5)] rfl (by (try simp only [List.map_toArray, List.map_cons, List.map_nil]); first | done | rfl | (simp only [List.length_drop, List.length_take]; rfl)) ?_; (with_reducible refine (frame_Take.calls kj1 (t164.extract 0 5) t169 t170 t171 _ A9.out).mono ?_); rintro e w25 ⟨rfl, hb⟩; refine ⟨_, rfl, ?_⟩; have n0_ := Aside0.mk (below_step (by repeat (first | (with_reducible first | exact HB.out | apply below_alloc | apply pw_below_drewN | apply below_drew1) | exact HB.out)) hb); clear HB; have HB := n0_; clear n0_; (try clear hb); (try clear hb2); (try clear hk); (try clear hi)))
                  go_ret
                  exact ⟨by first | rfl | (simp [errW_none, errW_some] <;> rfl) | (simp [*, errW_none, errW_some] <;> rfl), by repeat (first | (with_reducible first | exact HB.out | apply below_alloc | apply pw_below_drewN | apply below_drew1) | exact HB.out)⟩
              · rw [if_neg c11] at H
                exact absurd H (by simp)
            · rw [if_neg c10] at H
              exact absurd H (by simp)
          · rw [if_neg c8] at H
            exact absurd H (by simp)
        · rw [if_neg c7] at H
          exact absurd H (by simp)

end Go.Proofs.Ytblhcbnejfmaaaa.Q
