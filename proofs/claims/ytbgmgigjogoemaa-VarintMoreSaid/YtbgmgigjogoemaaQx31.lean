-- Written by a program of this session (mp.py).
import Derived.Test.YtbgmgigjogoemaaQx0
import Derived.Test.YtbgmgigjogoemaaQx3
import Derived.Test.YtbgmgigjogoemaaQx4
import Derived.Test.YtbgmgigjogoemaaQx5
import Derived.Test.YtbgmgigjogoemaaQx6
import Derived.Test.YtbgmgigjogoemaaQx8
import Derived.Test.YtbgmgigjogoemaaQx9
import Derived.Test.YtbgmgigjogoemaaQx18
import Derived.Test.YtbgmgigjogoemaaQx26
namespace Go.Proofs.Ytbgmgigjogoemaa.Q
open Go.RowKit Go.Proofs.YtbgmgigjogoemaaW.PrintWords Go.Proofs.YtbgmgigjogoemaaW.PrintLast Go.Proofs.YtbgmgigjogoemaaW.PrintMore
attribute [local go_sem] max2_int min2_int max_two min_two max_three min_three max_four min_four   -- for this text's walks alone
open Go.Proofs.Ytbgmgigjogoemaa.Giv
set_option linter.unusedVariables false
set_option linter.unusedSimpArgs false

/-! ### billetlaw01_VarintMore: function 12 -/
def billetlaw01_VarintMore.j0 : Nat → Int → ByteArray → ByteArray → Bool → ByteArray → Int → Bool → Option (Bool)
  | 0, _, _, _, _, _, _, _ => none
  | k + 1, x0, x1, x2, x25, x387000, x387001, x387002 => if x25 = true then (some false) else ((varint_Reader_Num.f k x387000 x387001 x387002).bind fun bt387 => ((varint_Reader_Text.f k bt387.2.1 bt387.2.2.1 bt387.2.2.2 (x1.size : Int)).bind fun bt391 => (if bt387.1 = x0 then (if bt391.1.toList = x1.toList then ((varint_Reader_Left.f bt391.2.1 bt391.2.2.1 bt391.2.2.2).bind fun bt395 => (if bt395.1 = (x2.size : Int) then ((varint_Reader_Bad.f bt395.2.1 bt395.2.2.1 bt395.2.2.2).bind fun bt399 => (if bt399.1 = true then (some false) else ((varint_Reader_Ends.f bt399.2.1 bt399.2.2.1 bt399.2.2.2).bind fun bt403 => (some (bt403.1 == (x2.toList == ([] : List UInt8))))))) else (some false))) else (some false)) else (some false))))
def billetlaw01_VarintMore.f (k : Nat) (a0 : Int) (a1 : ByteArray) (a2 : ByteArray) : Option (Bool) := (billetlaw01_awake.f k).bind fun t380 => ((varint_Num.f a0).bind fun t381 => ((varint_Text.f a1).bind fun t382 => (if t381.size + t382.size ≤ 9223372036854775807 then (if (t381 ++ t382).size + a2.size ≤ 9223372036854775807 then ((varint_New.f ((t381 ++ t382) ++ a2)).bind fun bt383 => (if t380 = true then (billetlaw01_VarintMore.j0 k a0 a1 a2 false bt383.1 bt383.2.1 bt383.2.2) else (billetlaw01_VarintMore.j0 k a0 a1 a2 true bt383.1 bt383.2.1 bt383.2.2))) else (none)) else (none))))
theorem billetlaw01_VarintMore.mono_l : ∀ k, (∀ y0 y1 y2 y3 y4 y5 y6, LeO (billetlaw01_VarintMore.j0 k y0 y1 y2 y3 y4 y5 y6) (billetlaw01_VarintMore.j0 (k + 1) y0 y1 y2 y3 y4 y5 y6))
  | 0 => fun _ _ _ _ _ _ _ r h => by simp [billetlaw01_VarintMore.j0] at h
  | k + 1 => by
    have ih0 := billetlaw01_VarintMore.mono_l k
    · intro y0 y1 y2 y3 y4 y5 y6
      unfold billetlaw01_VarintMore.j0
      repeat' first
      | (with_reducible exact ih0 _ _ _ _ _ _ _)
      | (with_reducible exact billetlaw01_awake.mono _)
      | (with_reducible exact varint_Reader_Num.mono _ _ _ _)
      | (with_reducible exact varint_Reader_Text.mono _ _ _ _ _)
      | (with_reducible exact LeO.refl _)
      | (with_reducible exact LeO.none _)
      | (with_reducible refine LeO.ite ?_ ?_)
      | (with_reducible refine LeO.bind ?_ (fun _ => ?_))
      | exact ih0 _ _ _ _ _ _ _
      | exact billetlaw01_awake.mono _
      | exact varint_Reader_Num.mono _ _ _ _
      | exact varint_Reader_Text.mono _ _ _ _ _
      | exact LeO.none _
      | refine LeO.ite ?_ ?_
      | refine LeO.bind ?_ (fun _ => ?_)
theorem billetlaw01_VarintMore.mono : ∀ a0 a1 a2 k, LeO (billetlaw01_VarintMore.f k a0 a1 a2) (billetlaw01_VarintMore.f (k + 1) a0 a1 a2) := by
  intro a0 a1 a2 k
  have ih0 := billetlaw01_VarintMore.mono_l k
  unfold billetlaw01_VarintMore.f
  repeat' first
      | (with_reducible exact ih0 _ _ _ _ _ _ _)
      | (with_reducible exact billetlaw01_awake.mono _)
      | (with_reducible exact varint_Reader_Num.mono _ _ _ _)
      | (with_reducible exact varint_Reader_Text.mono _ _ _ _ _)
      | (with_reducible exact LeO.refl _)
      | (with_reducible exact LeO.none _)
      | (with_reducible refine LeO.ite ?_ ?_)
      | (with_reducible refine LeO.bind ?_ (fun _ => ?_))
      | exact ih0 _ _ _ _ _ _ _
      | exact billetlaw01_awake.mono _
      | exact varint_Reader_Num.mono _ _ _ _
      | exact varint_Reader_Text.mono _ _ _ _ _
      | exact LeO.none _
      | refine LeO.ite ?_ ?_
      | refine LeO.bind ?_ (fun _ => ?_)
set_option maxHeartbeats 8000000 in
set_option maxRecDepth 100000 in
theorem billetlaw01_VarintMore.calls (k : Nat) (a0 : Int) (a1 : ByteArray) (a2 : ByteArray) (r : Bool) (w : World) (h : billetlaw01_VarintMore.f k a0 a1 a2 = some r) :
    Calls Try.prog 12 #[.int .i64 a0, .string a1, .string a2] w fun e w' => e = .returned (.bool r) ∧ Below w.heap.size w w' := by
  have HB := Aside0.mk (Below.refl w.heap.size w)
  have H : ((billetlaw01_awake.f k).bind fun t380 => ((varint_Num.f a0).bind fun t381 => ((varint_Text.f a1).bind fun t382 => (if t381.size + t382.size ≤ 9223372036854775807 then (if (t381 ++ t382).size + a2.size ≤ 9223372036854775807 then ((varint_New.f ((t381 ++ t382) ++ a2)).bind fun bt383 => (if t380 = true then (billetlaw01_VarintMore.j0 k a0 a1 a2 false bt383.1 bt383.2.1 bt383.2.2) else (billetlaw01_VarintMore.j0 k a0 a1 a2 true bt383.1 bt383.2.1 bt383.2.2))) else (none)) else (none))))) = some r := h
  clear h
  replace H := Option.bind_eq_some_iff.mp H
  obtain ⟨t380, A40, H⟩ := H
  replace H : ((varint_Num.f a0).bind fun t381 => ((varint_Text.f a1).bind fun t382 => (if t381.size + t382.size ≤ 9223372036854775807 then (if (t381 ++ t382).size + a2.size ≤ 9223372036854775807 then ((varint_New.f ((t381 ++ t382) ++ a2)).bind fun bt383 => (if t380 = true then (billetlaw01_VarintMore.j0 k a0 a1 a2 false bt383.1 bt383.2.1 bt383.2.2) else (billetlaw01_VarintMore.j0 k a0 a1 a2 true bt383.1 bt383.2.1 bt383.2.2))) else (none)) else (none)))) = some r := H
  have A4 := Aside0.mk A40
  clear A40
  replace H := Option.bind_eq_some_iff.mp H
  obtain ⟨t381, A50, H⟩ := H
  replace H : ((varint_Text.f a1).bind fun t382 => (if t381.size + t382.size ≤ 9223372036854775807 then (if (t381 ++ t382).size + a2.size ≤ 9223372036854775807 then ((varint_New.f ((t381 ++ t382) ++ a2)).bind fun bt383 => (if t380 = true then (billetlaw01_VarintMore.j0 k a0 a1 a2 false bt383.1 bt383.2.1 bt383.2.2) else (billetlaw01_VarintMore.j0 k a0 a1 a2 true bt383.1 bt383.2.1 bt383.2.2))) else (none)) else (none))) = some r := H
  have A5 := Aside0.mk A50
  clear A50
  replace H := Option.bind_eq_some_iff.mp H
  obtain ⟨t382, A60, H⟩ := H
  replace H : (if t381.size + t382.size ≤ 9223372036854775807 then (if (t381 ++ t382).size + a2.size ≤ 9223372036854775807 then ((varint_New.f ((t381 ++ t382) ++ a2)).bind fun bt383 => (if t380 = true then (billetlaw01_VarintMore.j0 k a0 a1 a2 false bt383.1 bt383.2.1 bt383.2.2) else (billetlaw01_VarintMore.j0 k a0 a1 a2 true bt383.1 bt383.2.1 bt383.2.2))) else (none)) else (none)) = some r := H
  have A6 := Aside0.mk A60
  clear A60
  by_cases c7 : t381.size + t382.size ≤ 9223372036854775807
  · rw [if_pos c7] at H
    have c7b0 := eq_true c7
    have c7b1 : decide (t381.size + t382.size ≤ 9223372036854775807) = true := decide_eq_true c7
    try have c7b2 : (9223372036854775807 < t381.size + t382.size) = False := eq_false (Nat.not_lt.2 c7)
    by_cases c8 : (t381 ++ t382).size + a2.size ≤ 9223372036854775807
    · rw [if_pos c8] at H
      have c8b0 := eq_true c8
      have c8b1 : decide ((t381 ++ t382).size + a2.size ≤ 9223372036854775807) = true := decide_eq_true c8
      try have c8b2 : (9223372036854775807 < (t381 ++ t382).size + a2.size) = False := eq_false (Nat.not_lt.2 c8)
      replace H := Option.bind_eq_some_iff.mp H
      obtain ⟨⟨t383, t384, t385⟩, A90, H⟩ := H
      replace H : (if t380 = true then (billetlaw01_VarintMore.j0 k a0 a1 a2 false t383 t384 t385) else (billetlaw01_VarintMore.j0 k a0 a1 a2 true t383 t384 t385)) = some r := H
      have A9 := Aside0.mk A90
      clear A90
      have HC10 := Aside0.mk H
      clear H
      go_enter Try.func12, Try.ntmps12
      go_upto_region 3 with (first | ((with_reducible refine gate_callee (f := 13) rfl ?_); refine goesL_ (some 11) rfl rfl Try.func13 (by kernel_rfl) rfl #[] rfl (by (try simp only [List.map_toArray, List.map_cons, List.map_nil]); first | done | rfl | (simp only [List.length_drop, List.length_take]; rfl)) ?_; (with_reducible refine (billetlaw01_awake.calls k  t380 _ A4.out).mono ?_); rintro e w11 ⟨rfl, hb⟩; refine ⟨_, rfl, ?_⟩; have n0_ := Aside0.mk (below_step (by repeat (first | (with_reducible first | exact HB.out | apply below_alloc | apply pw_below_drewN | apply below_drew1) | exact HB.out)) hb); clear HB; have HB := n0_; clear n0_; (try clear hb); (try clear hb2); (try clear hk); (try clear hi)) | ((with_reducible refine gate_callee (f := 14) rfl ?_); refine goesL_ (some 13) rfl rfl Try.func14 (by kernel_rfl) rfl #[.int .i64 a0] rfl (by (try simp only [List.map_toArray, List.map_cons, List.map_nil]); first | done | rfl | (simp only [List.length_drop, List.length_take]; rfl)) ?_; (with_reducible refine (varint_Num.calls a0 t381 _ A5.out).mono ?_); rintro e w12 ⟨rfl, hb⟩; refine ⟨_, rfl, ?_⟩; have n0_ := Aside0.mk (below_step (by repeat (first | (with_reducible first | exact HB.out | apply below_alloc | apply pw_below_drewN | apply below_drew1) | exact HB.out)) hb); clear HB; have HB := n0_; clear n0_; (try clear hb); (try clear hb2); (try clear hk); (try clear hi)) | ((with_reducible refine gate_callee (f := 16) rfl ?_); refine goesL_ (some 15) rfl rfl Try.func16 (by kernel_rfl) rfl #[.string a1] rfl (by (try simp only [List.map_toArray, List.map_cons, List.map_nil]); first | done | rfl | (simp only [List.length_drop, List.length_take]; rfl)) ?_; (with_reducible refine (varint_Text.calls a1 t382 _ A6.out).mono ?_); rintro e w13 ⟨rfl, hb⟩; refine ⟨_, rfl, ?_⟩; have n0_ := Aside0.mk (below_step (by repeat (first | (with_reducible first | exact HB.out | apply below_alloc | apply pw_below_drewN | apply below_drew1) | exact HB.out)) hb); clear HB; have HB := n0_; clear n0_; (try clear hb); (try clear hb2); (try clear hk); (try clear hi)) | ((with_reducible refine gate_callee (f := 19) rfl ?_); refine goesL_ (some 19) rfl rfl Try.func19 (by kernel_rfl) rfl #[.string ((t381 ++ t382) ++ a2)] rfl (by (try simp only [List.map_toArray, List.map_cons, List.map_nil]); first | done | rfl | (simp only [List.length_drop, List.length_take]; rfl)) ?_; (with_reducible refine (varint_New.calls ((t381 ++ t382) ++ a2) t383 t384 t385 w _ ?side1 A9.out).mono ?_); (case side1 => repeat (first | (with_reducible first | exact HB.out | apply below_alloc | apply pw_below_drewN | apply below_drew1) | exact HB.out)); rintro e w14 ⟨g386, rfl, hi, hb, hb2⟩; refine ⟨_, rfl, ?_⟩; have n0_ := Aside0.mk (hb); have n1_ := Aside0.mk (hi); clear HB; have HB := n0_; have HI386 := n1_; clear n0_ n1_; (try clear hb); (try clear hb2); (try clear hk); (try clear hi)))
      (try simp only [Act.put, List.setIfInBounds_toArray, List.set_cons_zero, List.set_cons_succ])
      go_cut [25] (fun v25 wc => ∃ (kq : Nat) (x25_9 : Bool), v25 = .bool x25_9 ∧ Aside0 (billetlaw01_VarintMore.j0 kq a0 a1 a2 x25_9 t383 t384 t385 = some r) ∧ Aside0 (kq ≤ k) ∧ Aside0 (IsS51 w wc g386 t383 t384 t385) ∧ Aside0 (Below w.heap.size w wc))
      case first =>
        have H := HC10.out
        clear HC10
        by_cases c15 : t380 = true
        · subst c15
          have H1 : (billetlaw01_VarintMore.j0 k a0 a1 a2 false t383 t384 t385) = some r := by rw [if_pos rfl] at H; exact H
          clear H
          have H := H1
          clear H1
          have H' := Aside0.mk H
          clear H
          go_wp2
          go_meet
          case rel => exact ⟨_, (false), (by first | rfl | (simp; done) | (simp [*]; done)), H', ⟨by first | omega | exact Nat.le_refl _⟩, ⟨by repeat (first | (with_reducible first | exact HI386.out | apply IsS51.alloc | apply IsS51.drewN | apply IsS51.drew | apply IsS51.set_0 | apply IsS51.set_1 | apply IsS51.set_2) | exact HI386.out)⟩, ⟨by repeat (first | (with_reducible first | exact HB.out | apply below_alloc | apply pw_below_drewN | apply below_drew1 | refine below_set ?_ (IsS51.ge HI386.out)) | exact HB.out)⟩⟩
        · replace c15 := Bool.eq_false_iff.mpr c15
          subst c15
          have H1 : (billetlaw01_VarintMore.j0 k a0 a1 a2 true t383 t384 t385) = some r := by rw [if_neg (show ¬ (false = true) by decide)] at H; exact H
          clear H
          have H := H1
          clear H1
          have H' := Aside0.mk H
          clear H
          go_wp2
          go_meet
          case rel => exact ⟨_, (true), (by first | rfl | (simp; done) | (simp [*]; done)), H', ⟨by first | omega | exact Nat.le_refl _⟩, ⟨by repeat (first | (with_reducible first | exact HI386.out | apply IsS51.alloc | apply IsS51.drewN | apply IsS51.drew | apply IsS51.set_0 | apply IsS51.set_1 | apply IsS51.set_2) | exact HI386.out)⟩, ⟨by repeat (first | (with_reducible first | exact HB.out | apply below_alloc | apply pw_below_drewN | apply below_drew1 | refine below_set ?_ (IsS51.ge HI386.out)) | exact HB.out)⟩⟩
      case rest =>
        clear HC10
        try clear c1
        try clear p2
        try clear c7
        try clear c7b0
        try clear c7b1
        try clear c7b2
        try clear c8
        try clear c8b0
        try clear c8b1
        try clear c8b2
        try clear c12
        try clear c13
        try clear c14
        try clear c15
        obtain ⟨kq, x25_9, rfl, HA, HJ9, HI386, HB⟩ := hcut
        cases kq with
        | zero => exact absurd HA.out (by simp [billetlaw01_VarintMore.j0])
        | succ kj9 =>
          have H := HA.out
          clear HA
          simp only [billetlaw01_VarintMore.j0] at H
          by_cases c16 : x25_9 = true
          · subst c16
            have H1 : (some false) = some r := by rw [if_pos rfl] at H; exact H
            clear H
            have H := H1
            clear H1
            obtain rfl := Option.some.inj H
            go_wp2
            go_ret
            exact ⟨by first | rfl | (simp [errW_none, errW_some] <;> rfl) | (simp [*, errW_none, errW_some] <;> rfl), by repeat (first | (with_reducible first | exact HB.out | apply below_alloc | apply pw_below_drewN | apply below_drew1 | refine below_set ?_ (IsS51.ge HI386.out)) | exact HB.out)⟩
          · replace c16 := Bool.eq_false_iff.mpr c16
            subst c16
            have H1 : ((varint_Reader_Num.f kj9 t383 t384 t385).bind fun bt387 => ((varint_Reader_Text.f kj9 bt387.2.1 bt387.2.2.1 bt387.2.2.2 (a1.size : Int)).bind fun bt391 => (if bt387.1 = a0 then (if bt391.1.toList = a1.toList then ((varint_Reader_Left.f bt391.2.1 bt391.2.2.1 bt391.2.2.2).bind fun bt395 => (if bt395.1 = (a2.size : Int) then ((varint_Reader_Bad.f bt395.2.1 bt395.2.2.1 bt395.2.2.2).bind fun bt399 => (if bt399.1 = true then (some false) else ((varint_Reader_Ends.f bt399.2.1 bt399.2.2.1 bt399.2.2.2).bind fun bt403 => (some (bt403.1 == (a2.toList == ([] : List UInt8))))))) else (some false))) else (some false)) else (some false)))) = some r := by rw [if_neg (show ¬ (false = true) by decide)] at H; exact H
            clear H
            have H := H1
            clear H1
            replace H := Option.bind_eq_some_iff.mp H
            obtain ⟨⟨t387, t388, t389, t390⟩, A170, H⟩ := H
            replace H : ((varint_Reader_Text.f kj9 t388 t389 t390 (a1.size : Int)).bind fun bt391 => (if t387 = a0 then (if bt391.1.toList = a1.toList then ((varint_Reader_Left.f bt391.2.1 bt391.2.2.1 bt391.2.2.2).bind fun bt395 => (if bt395.1 = (a2.size : Int) then ((varint_Reader_Bad.f bt395.2.1 bt395.2.2.1 bt395.2.2.2).bind fun bt399 => (if bt399.1 = true then (some false) else ((varint_Reader_Ends.f bt399.2.1 bt399.2.2.1 bt399.2.2.2).bind fun bt403 => (some (bt403.1 == (a2.toList == ([] : List UInt8))))))) else (some false))) else (some false)) else (some false))) = some r := H
            have A17 := Aside0.mk A170
            clear A170
            replace H := Option.bind_eq_some_iff.mp H
            obtain ⟨⟨t391, t392, t393, t394⟩, A180, H⟩ := H
            replace H : (if t387 = a0 then (if t391.toList = a1.toList then ((varint_Reader_Left.f t392 t393 t394).bind fun bt395 => (if bt395.1 = (a2.size : Int) then ((varint_Reader_Bad.f bt395.2.1 bt395.2.2.1 bt395.2.2.2).bind fun bt399 => (if bt399.1 = true then (some false) else ((varint_Reader_Ends.f bt399.2.1 bt399.2.2.1 bt399.2.2.2).bind fun bt403 => (some (bt403.1 == (a2.toList == ([] : List UInt8))))))) else (some false))) else (some false)) else (some false)) = some r := H
            have A18 := Aside0.mk A180
            clear A180
            by_cases c19 : t387 = a0
            · rw [if_pos c19] at H
              have c19b0 : (t387 == a0) = true := beq_iff_eq.mpr c19
              have c19b1 : (t387 != a0) = false := bne_eq_false_iff_eq.mpr c19
              clear c19
              by_cases c20 : t391.toList = a1.toList
              · rw [if_pos c20] at H
                have c20b0 : (t391.toList == a1.toList) = true := beq_iff_eq.mpr c20
                have c20b1 : (t391.toList != a1.toList) = false := bne_eq_false_iff_eq.mpr c20
                clear c20
                replace H := Option.bind_eq_some_iff.mp H
                obtain ⟨⟨t395, t396, t397, t398⟩, A210, H⟩ := H
                replace H : (if t395 = (a2.size : Int) then ((varint_Reader_Bad.f t396 t397 t398).bind fun bt399 => (if bt399.1 = true then (some false) else ((varint_Reader_Ends.f bt399.2.1 bt399.2.2.1 bt399.2.2.2).bind fun bt403 => (some (bt403.1 == (a2.toList == ([] : List UInt8))))))) else (some false)) = some r := H
                have A21 := Aside0.mk A210
                clear A210
                by_cases c22 : t395 = (a2.size : Int)
                · rw [if_pos c22] at H
                  have c22b0 : (t395 == (a2.size : Int)) = true := beq_iff_eq.mpr c22
                  have c22b1 : (t395 != (a2.size : Int)) = false := bne_eq_false_iff_eq.mpr c22
                  clear c22
                  replace H := Option.bind_eq_some_iff.mp H
                  obtain ⟨⟨t399, t400, t401, t402⟩, A230, H⟩ := H
                  replace H : (if t399 = true then (some false) else ((varint_Reader_Ends.f t400 t401 t402).bind fun bt403 => (some (bt403.1 == (a2.toList == ([] : List UInt8)))))) = some r := H
                  have A23 := Aside0.mk A230
                  clear A230
                  by_cases c24 : t399 = true
                  · subst c24
                    have H1 : (some false) = some r := by rw [if_pos rfl] at H; exact H
                    clear H
                    have H := H1
                    clear H1
                    obtain rfl := Option.some.inj H
                    go_wp2_with (first | ((with_reducible refine gate_callee (f := 24) rfl ?_); refine goesL_ (some 27) rfl rfl Try.func24 (by kernel_rfl) rfl #[.pointer (some ⟨g386, 0, none⟩)] rfl (by (try simp only [List.map_toArray, List.map_cons, List.map_nil]); first | done | rfl | (simp only [List.length_drop, List.length_take]; rfl)) ?_; (with_reducible refine (varint_Reader_Num.calls kj9 g386 t383 t384 t385 t387 t388 t389 t390 w _ ?side1 ?side2 A17.out).mono ?_); (case side1 => repeat (first | (with_reducible first | exact HI386.out | apply IsS51.alloc | apply IsS51.drewN | apply IsS51.drew | apply IsS51.set_0 | apply IsS51.set_1 | apply IsS51.set_2) | exact HI386.out)); (case side2 => repeat (first | (with_reducible first | exact HB.out | apply below_alloc | apply pw_below_drewN | apply below_drew1 | refine below_set ?_ (IsS51.ge HI386.out)) | exact HB.out)); rintro e w25 ⟨rfl, hi, hb, hk⟩; refine ⟨_, rfl, ?_⟩; have n0_ := Aside0.mk (hb); have n1_ := Aside0.mk (hi); clear HB; clear HI386; have HB := n0_; have HI386 := n1_; clear n0_ n1_; (try clear hb); (try clear hb2); (try clear hk); (try clear hi)) | ((with_reducible refine gate_callee (f := 20) rfl ?_); refine goesL_ (some 31) rfl rfl Try.func20 (by kernel_rfl) rfl #[.pointer (some ⟨g386, 0, none⟩), .int .i64 (a1.size : Int)] rfl (by (try simp only [List.map_toArray, List.map_cons, List.map_nil]); first | done | rfl | (simp only [List.length_drop, List.length_take]; rfl)) ?_; (with_reducible refine (varint_Reader_Text.calls kj9 g386 t388 t389 t390 (a1.size : Int) t391 t392 t393 t394 w _ ?side1 ?side2 A18.out).mono ?_); (case side1 => repeat (first | (with_reducible first | exact HI386.out | apply IsS51.alloc | apply IsS51.drewN | apply IsS51.drew | apply IsS51.set_0 | apply IsS51.set_1 | apply IsS51.set_2) | exact HI386.out)); (case side2 => repeat (first | (with_reducible first | exact HB.out | apply below_alloc | apply pw_below_drewN | apply below_drew1 | refine below_set ?_ (IsS51.ge HI386.out)) | exact HB.out)); rintro e w26 ⟨rfl, hi, hb, hk⟩; refine ⟨_, rfl, ?_⟩; have n0_ := Aside0.mk (hb); have n1_ := Aside0.mk (hi); clear HB; clear HI386; have HB := n0_; have HI386 := n1_; clear n0_ n1_; (try clear hb); (try clear hb2); (try clear hk); (try clear hi)) | (go_at_call 22; (with_reducible refine (varint_Reader_Left.calls g386 t392 t393 t394 t395 t396 t397 t398 w _ ?side1 ?side2 A21.out).mono ?_); (case side1 => repeat (first | (with_reducible first | exact HI386.out | apply IsS51.alloc | apply IsS51.drewN | apply IsS51.drew | apply IsS51.set_0 | apply IsS51.set_1 | apply IsS51.set_2) | exact HI386.out)); (case side2 => repeat (first | (with_reducible first | exact HB.out | apply below_alloc | apply pw_below_drewN | apply below_drew1 | refine below_set ?_ (IsS51.ge HI386.out)) | exact HB.out)); rintro e w27 ⟨rfl, hi, hb, hk⟩; have n0_ := Aside0.mk (hb); have n1_ := Aside0.mk (hi); clear HB; clear HI386; have HB := n0_; have HI386 := n1_; clear n0_ n1_; (try clear hb); (try clear hb2); (try clear hk); (try clear hi)) | (go_at_call 21; (with_reducible refine (varint_Reader_Bad.calls g386 t396 t397 t398 true t400 t401 t402 w _ ?side1 ?side2 A23.out).mono ?_); (case side1 => repeat (first | (with_reducible first | exact HI386.out | apply IsS51.alloc | apply IsS51.drewN | apply IsS51.drew | apply IsS51.set_0 | apply IsS51.set_1 | apply IsS51.set_2) | exact HI386.out)); (case side2 => repeat (first | (with_reducible first | exact HB.out | apply below_alloc | apply pw_below_drewN | apply below_drew1 | refine below_set ?_ (IsS51.ge HI386.out)) | exact HB.out)); rintro e w28 ⟨rfl, hi, hb, hk⟩; have n0_ := Aside0.mk (hb); have n1_ := Aside0.mk (hi); clear HB; clear HI386; have HB := n0_; have HI386 := n1_; clear n0_ n1_; (try clear hb); (try clear hb2); (try clear hk); (try clear hi)))
                    go_ret
                    exact ⟨by first | rfl | (simp [errW_none, errW_some] <;> rfl) | (simp [*, errW_none, errW_some] <;> rfl), by repeat (first | (with_reducible first | exact HB.out | apply below_alloc | apply pw_below_drewN | apply below_drew1 | refine below_set ?_ (IsS51.ge HI386.out)) | exact HB.out)⟩
                  · replace c24 := Bool.eq_false_iff.mpr c24
                    subst c24
                    have H1 : ((varint_Reader_Ends.f t400 t401 t402).bind fun bt403 => (some (bt403.1 == (a2.toList == ([] : List UInt8))))) = some r := by rw [if_neg (show ¬ (false = true) by decide)] at H; exact H
                    clear H
                    have H := H1
                    clear H1
                    replace H := Option.bind_eq_some_iff.mp H
                    obtain ⟨⟨t403, t404, t405, t406⟩, A290, H⟩ := H
                    replace H : (some (t403 == (a2.toList == ([] : List UInt8)))) = some r := H
                    have A29 := Aside0.mk A290
                    clear A290
                    obtain rfl := Option.some.inj H
                    go_wp2_with (first | ((with_reducible refine gate_callee (f := 24) rfl ?_); refine goesL_ (some 27) rfl rfl Try.func24 (by kernel_rfl) rfl #[.pointer (some ⟨g386, 0, none⟩)] rfl (by (try simp only [List.map_toArray, List.map_cons, List.map_nil]); first | done | rfl | (simp only [List.length_drop, List.length_take]; rfl)) ?_; (with_reducible refine (varint_Reader_Num.calls kj9 g386 t383 t384 t385 t387 t388 t389 t390 w _ ?side1 ?side2 A17.out).mono ?_); (case side1 => repeat (first | (with_reducible first | exact HI386.out | apply IsS51.alloc | apply IsS51.drewN | apply IsS51.drew | apply IsS51.set_0 | apply IsS51.set_1 | apply IsS51.set_2) | exact HI386.out)); (case side2 => repeat (first | (with_reducible first | exact HB.out | apply below_alloc | apply pw_below_drewN | apply below_drew1 | refine below_set ?_ (IsS51.ge HI386.out)) | exact HB.out)); rintro e w30 ⟨rfl, hi, hb, hk⟩; refine ⟨_, rfl, ?_⟩; have n0_ := Aside0.mk (hb); have n1_ := Aside0.mk (hi); clear HB; clear HI386; have HB := n0_; have HI386 := n1_; clear n0_ n1_; (try clear hb); (try clear hb2); (try clear hk); (try clear hi)) | ((with_reducible refine gate_callee (f := 20) rfl ?_); refine goesL_ (some 31) rfl rfl Try.func20 (by kernel_rfl) rfl #[.pointer (some ⟨g386, 0, none⟩), .int .i64 (a1.size : Int)] rfl (by (try simp only [List.map_toArray, List.map_cons, List.map_nil]); first | done | rfl | (simp only [List.length_drop, List.length_take]; rfl)) ?_; (with_reducible refine (varint_Reader_Text.calls kj9 g386 t388 t389 t390 (a1.size : Int) t391 t392 t393 t394 w _ ?side1 ?side2 A18.out).mono ?_); (case side1 => repeat (first | (with_reducible first | exact HI386.out | apply IsS51.alloc | apply IsS51.drewN | apply IsS51.drew | apply IsS51.set_0 | apply IsS51.set_1 | apply IsS51.set_2) | exact HI386.out)); (case side2 => repeat (first | (with_reducible first | exact HB.out | apply below_alloc | apply pw_below_drewN | apply below_drew1 | refine below_set ?_ (IsS51.ge HI386.out)) | exact HB.out)); rintro e w31 ⟨rfl, hi, hb, hk⟩; refine ⟨_, rfl, ?_⟩; have n0_ := Aside0.mk (hb); have n1_ := Aside0.mk (hi); clear HB; clear HI386; have HB := n0_; have HI386 := n1_; clear n0_ n1_; (try clear hb); (try clear hb2); (try clear hk); (try clear hi)) | (go_at_call 22; (with_reducible refine (varint_Reader_Left.calls g386 t392 t393 t394 t395 t396 t397 t398 w _ ?side1 ?side2 A21.out).mono ?_); (case side1 => repeat (first | (with_reducible first | exact HI386.out | apply IsS51.alloc | apply IsS51.drewN | apply IsS51.drew | apply IsS51.set_0 | apply IsS51.set_1 | apply IsS51.set_2) | exact HI386.out)); (case side2 => repeat (first | (with_reducible first | exact HB.out | apply below_alloc | apply pw_below_drewN | apply below_drew1 | refine below_set ?_ (IsS51.ge HI386.out)) | exact HB.out)); rintro e w32 ⟨rfl, hi, hb, hk⟩; have n0_ := Aside0.mk (hb); have n1_ := Aside0.mk (hi); clear HB; clear HI386; have HB := n0_; have HI386 := n1_; clear n0_ n1_; (try clear hb); (try clear hb2); (try clear hk); (try clear hi)) | (go_at_call 21; (with_reducible refine (varint_Reader_Bad.calls g386 t396 t397 t398 false t400 t401 t402 w _ ?side1 ?side2 A23.out).mono ?_); (case side1 => repeat (first | (with_reducible first | exact HI386.out | apply IsS51.alloc | apply IsS51.drewN | apply IsS51.drew | apply IsS51.set_0 | apply IsS51.set_1 | apply IsS51.set_2) | exact HI386.out)); (case side2 => repeat (first | (with_reducible first | exact HB.out | apply below_alloc | apply pw_below_drewN | apply below_drew1 | refine below_set ?_ (IsS51.ge HI386.out)) | exact HB.out)); rintro e w33 ⟨rfl, hi, hb, hk⟩; have n0_ := Aside0.mk (hb); have n1_ := Aside0.mk (hi); clear HB; clear HI386; have HB := n0_; have HI386 := n1_; clear n0_ n1_; (try clear hb); (try clear hb2); (try clear hk); (try clear hi)) | (go_at_call 29; (with_reducible refine (varint_Reader_Ends.calls g386 t400 t401 t402 t403 t404 t405 t406 w _ ?side1 ?side2 A29.out).mono ?_); (case side1 => repeat (first | (with_reducible first | exact HI386.out | apply IsS51.alloc | apply IsS51.drewN | apply IsS51.drew | apply IsS51.set_0 | apply IsS51.set_1 | apply IsS51.set_2) | exact HI386.out)); (case side2 => repeat (first | (with_reducible first | exact HB.out | apply below_alloc | apply pw_below_drewN | apply below_drew1 | refine below_set ?_ (IsS51.ge HI386.out)) | exact HB.out)); rintro e w34 ⟨rfl, hi, hb, hk⟩; have n0_ := Aside0.mk (hb); have n1_ := Aside0.mk (hi); clear HB; clear HI386; have HB := n0_; have HI386 := n1_; clear n0_ n1_; (try clear hb); (try clear hb2); (try clear hk); (try clear hi)))
                    go_ret
                    exact ⟨by first | rfl | (simp [errW_none, errW_some] <;> rfl) | (simp [*, errW_none, errW_some] <;> rfl), by repeat (first | (with_reducible first | exact HB.out | apply below_alloc | apply pw_below_drewN | apply below_drew1 | refine below_set ?_ (IsS51.ge HI386.out)) | exact HB.out)⟩
                · rw [if_neg c22] at H
                  have c22b0 : (t395 == (a2.size : Int)) = false := beq_eq_false_iff_ne.mpr c22
                  have c22b1 : (t395 != (a2.size : Int)) = true := bne_iff_ne.mpr c22
                  obtain rfl := Option.some.inj H
                  go_wp2_with (first | ((with_reducible refine gate_callee (f := 24) rfl ?_); refine goesL_ (some 27) rfl rfl Try.func24 (by kernel_rfl) rfl #[.pointer (some ⟨g386, 0, none⟩)] rfl (by (try simp only [List.map_toArray, List.map_cons, List.map_nil]); first | done | rfl | (simp only [List.length_drop, List.length_take]; rfl)) ?_; (with_reducible refine (varint_Reader_Num.calls kj9 g386 t383 t384 t385 t387 t388 t389 t390 w _ ?side1 ?side2 A17.out).mono ?_); (case side1 => repeat (first | (with_reducible first | exact HI386.out | apply IsS51.alloc | apply IsS51.drewN | apply IsS51.drew | apply IsS51.set_0 | apply IsS51.set_1 | apply IsS51.set_2) | exact HI386.out)); (case side2 => repeat (first | (with_reducible first | exact HB.out | apply below_alloc | apply pw_below_drewN | apply below_drew1 | refine below_set ?_ (IsS51.ge HI386.out)) | exact HB.out)); rintro e w35 ⟨rfl, hi, hb, hk⟩; refine ⟨_, rfl, ?_⟩; have n0_ := Aside0.mk (hb); have n1_ := Aside0.mk (hi); clear HB; clear HI386; have HB := n0_; have HI386 := n1_; clear n0_ n1_; (try clear hb); (try clear hb2); (try clear hk); (try clear hi)) | ((with_reducible refine gate_callee (f := 20) rfl ?_); refine goesL_ (some 31) rfl rfl Try.func20 (by kernel_rfl) rfl #[.pointer (some ⟨g386, 0, none⟩), .int .i64 (a1.size : Int)] rfl (by (try simp only [List.map_toArray, List.map_cons, List.map_nil]); first | done | rfl | (simp only [List.length_drop, List.length_take]; rfl)) ?_; (with_reducible refine (varint_Reader_Text.calls kj9 g386 t388 t389 t390 (a1.size : Int) t391 t392 t393 t394 w _ ?side1 ?side2 A18.out).mono ?_); (case side1 => repeat (first | (with_reducible first | exact HI386.out | apply IsS51.alloc | apply IsS51.drewN | apply IsS51.drew | apply IsS51.set_0 | apply IsS51.set_1 | apply IsS51.set_2) | exact HI386.out)); (case side2 => repeat (first | (with_reducible first | exact HB.out | apply below_alloc | apply pw_below_drewN | apply below_drew1 | refine below_set ?_ (IsS51.ge HI386.out)) | exact HB.out)); rintro e w36 ⟨rfl, hi, hb, hk⟩; refine ⟨_, rfl, ?_⟩; have n0_ := Aside0.mk (hb); have n1_ := Aside0.mk (hi); clear HB; clear HI386; have HB := n0_; have HI386 := n1_; clear n0_ n1_; (try clear hb); (try clear hb2); (try clear hk); (try clear hi)) | (go_at_call 22; (with_reducible refine (varint_Reader_Left.calls g386 t392 t393 t394 t395 t396 t397 t398 w _ ?side1 ?side2 A21.out).mono ?_); (case side1 => repeat (first | (with_reducible first | exact HI386.out | apply IsS51.alloc | apply IsS51.drewN | apply IsS51.drew | apply IsS51.set_0 | apply IsS51.set_1 | apply IsS51.set_2) | exact HI386.out)); (case side2 => repeat (first | (with_reducible first | exact HB.out | apply below_alloc | apply pw_below_drewN | apply below_drew1 | refine below_set ?_ (IsS51.ge HI386.out)) | exact HB.out)); rintro e w37 ⟨rfl, hi, hb, hk⟩; have n0_ := Aside0.mk (hb); have n1_ := Aside0.mk (hi); clear HB; clear HI386; have HB := n0_; have HI386 := n1_; clear n0_ n1_; (try clear hb); (try clear hb2); (try clear hk); (try clear hi)))
                  go_ret
                  exact ⟨by first | rfl | (simp [errW_none, errW_some] <;> rfl) | (simp [*, errW_none, errW_some] <;> rfl), by repeat (first | (with_reducible first | exact HB.out | apply below_alloc | apply pw_below_drewN | apply below_drew1 | refine below_set ?_ (IsS51.ge HI386.out)) | exact HB.out)⟩
              · rw [if_neg c20] at H
                have c20b0 : (t391.toList == a1.toList) = false := beq_eq_false_iff_ne.mpr c20
                have c20b1 : (t391.toList != a1.toList) = true := bne_iff_ne.mpr c20
                obtain rfl := Option.some.inj H
                go_wp2_with (first | ((with_reducible refine gate_callee (f := 24) rfl ?_); refine goesL_ (some 27) rfl rfl Try.func24 (by kernel_rfl) rfl #[.pointer (some ⟨g386, 0, none⟩)] rfl (by (try simp only [List.map_toArray, List.map_cons, List.map_nil]); first | done | rfl | (simp only [List.length_drop, List.length_take]; rfl)) ?_; (with_reducible refine (varint_Reader_Num.calls kj9 g386 t383 t384 t385 t387 t388 t389 t390 w _ ?side1 ?side2 A17.out).mono ?_); (case side1 => repeat (first | (with_reducible first | exact HI386.out | apply IsS51.alloc | apply IsS51.drewN | apply IsS51.drew | apply IsS51.set_0 | apply IsS51.set_1 | apply IsS51.set_2) | exact HI386.out)); (case side2 => repeat (first | (with_reducible first | exact HB.out | apply below_alloc | apply pw_below_drewN | apply below_drew1 | refine below_set ?_ (IsS51.ge HI386.out)) | exact HB.out)); rintro e w38 ⟨rfl, hi, hb, hk⟩; refine ⟨_, rfl, ?_⟩; have n0_ := Aside0.mk (hb); have n1_ := Aside0.mk (hi); clear HB; clear HI386; have HB := n0_; have HI386 := n1_; clear n0_ n1_; (try clear hb); (try clear hb2); (try clear hk); (try clear hi)) | ((with_reducible refine gate_callee (f := 20) rfl ?_); refine goesL_ (some 31) rfl rfl Try.func20 (by kernel_rfl) rfl #[.pointer (some ⟨g386, 0, none⟩), .int .i64 (a1.size : Int)] rfl (by (try simp only [List.map_toArray, List.map_cons, List.map_nil]); first | done | rfl | (simp only [List.length_drop, List.length_take]; rfl)) ?_; (with_reducible refine (varint_Reader_Text.calls kj9 g386 t388 t389 t390 (a1.size : Int) t391 t392 t393 t394 w _ ?side1 ?side2 A18.out).mono ?_); (case side1 => repeat (first | (with_reducible first | exact HI386.out | apply IsS51.alloc | apply IsS51.drewN | apply IsS51.drew | apply IsS51.set_0 | apply IsS51.set_1 | apply IsS51.set_2) | exact HI386.out)); (case side2 => repeat (first | (with_reducible first | exact HB.out | apply below_alloc | apply pw_below_drewN | apply below_drew1 | refine below_set ?_ (IsS51.ge HI386.out)) | exact HB.out)); rintro e w39 ⟨rfl, hi, hb, hk⟩; refine ⟨_, rfl, ?_⟩; have n0_ := Aside0.mk (hb); have n1_ := Aside0.mk (hi); clear HB; clear HI386; have HB := n0_; have HI386 := n1_; clear n0_ n1_; (try clear hb); (try clear hb2); (try clear hk); (try clear hi)))
                go_ret
                exact ⟨by first | rfl | (simp [errW_none, errW_some] <;> rfl) | (simp [*, errW_none, errW_some] <;> rfl), by repeat (first | (with_reducible first | exact HB.out | apply below_alloc | apply pw_below_drewN | apply below_drew1 | refine below_set ?_ (IsS51.ge HI386.out)) | exact HB.out)⟩
            · rw [if_neg c19] at H
              have c19b0 : (t387 == a0) = false := beq_eq_false_iff_ne.mpr c19
              have c19b1 : (t387 != a0) = true := bne_iff_ne.mpr c19
              obtain rfl := Option.some.inj H
              go_wp2_with (first | ((with_reducible refine gate_callee (f := 24) rfl ?_); refine goesL_ (some 27) rfl rfl Try.func24 (by kernel_rfl) rfl #[.pointer (some ⟨g386, 0, none⟩)] rfl (by (try simp only [List.map_toArray, List.map_cons, List.map_nil]); first | done | rfl | (simp only [List.length_drop, List.length_take]; rfl)) ?_; (with_reducible refine (varint_Reader_Num.calls kj9 g386 t383 t384 t385 t387 t388 t389 t390 w _ ?side1 ?side2 A17.out).mono ?_); (case side1 => repeat (first | (with_reducible first | exact HI386.out | apply IsS51.alloc | apply IsS51.drewN | apply IsS51.drew | apply IsS51.set_0 | apply IsS51.set_1 | apply IsS51.set_2) | exact HI386.out)); (case side2 => repeat (first | (with_reducible first | exact HB.out | apply below_alloc | apply pw_below_drewN | apply below_drew1 | refine below_set ?_ (IsS51.ge HI386.out)) | exact HB.out)); rintro e w40 ⟨rfl, hi, hb, hk⟩; refine ⟨_, rfl, ?_⟩; have n0_ := Aside0.mk (hb); have n1_ := Aside0.mk (hi); clear HB; clear HI386; have HB := n0_; have HI386 := n1_; clear n0_ n1_; (try clear hb); (try clear hb2); (try clear hk); (try clear hi)) | ((with_reducible refine gate_callee (f := 20) rfl ?_); refine goesL_ (some 31) rfl rfl Try.func20 (by kernel_rfl) rfl #[.pointer (some ⟨g386, 0, none⟩), .int .i64 (a1.size : Int)] rfl (by (try simp only [List.map_toArray, List.map_cons, List.map_nil]); first | done | rfl | (simp only [List.length_drop, List.length_take]; rfl)) ?_; (with_reducible refine (varint_Reader_Text.calls kj9 g386 t388 t389 t390 (a1.size : Int) t391 t392 t393 t394 w _ ?side1 ?side2 A18.out).mono ?_); (case side1 => repeat (first | (with_reducible first | exact HI386.out | apply IsS51.alloc | apply IsS51.drewN | apply IsS51.drew | apply IsS51.set_0 | apply IsS51.set_1 | apply IsS51.set_2) | exact HI386.out)); (case side2 => repeat (first | (with_reducible first | exact HB.out | apply below_alloc | apply pw_below_drewN | apply below_drew1 | refine below_set ?_ (IsS51.ge HI386.out)) | exact HB.out)); rintro e w41 ⟨rfl, hi, hb, hk⟩; refine ⟨_, rfl, ?_⟩; have n0_ := Aside0.mk (hb); have n1_ := Aside0.mk (hi); clear HB; clear HI386; have HB := n0_; have HI386 := n1_; clear n0_ n1_; (try clear hb); (try clear hb2); (try clear hk); (try clear hi)))
              go_ret
              exact ⟨by first | rfl | (simp [errW_none, errW_some] <;> rfl) | (simp [*, errW_none, errW_some] <;> rfl), by repeat (first | (with_reducible first | exact HB.out | apply below_alloc | apply pw_below_drewN | apply below_drew1 | refine below_set ?_ (IsS51.ge HI386.out)) | exact HB.out)⟩
    · rw [if_neg c8] at H
      exact absurd H (by simp)
  · rw [if_neg c7] at H
    exact absurd H (by simp)

/-- THE ONE PURE STATEMENT of billetlaw01_VarintMore: yours. -/
def billetlaw01_VarintMore.Pure : Prop := ∀ (a0 : Int) (a1 : ByteArray) (a2 : ByteArray), (Lit.int .i64 a0).wf = true → a1.size ≤ 140737488351232 → a2.size ≤ 140737488351232 → ∃ k, billetlaw01_VarintMore.f k a0 a1 a2 = some true
theorem billetlaw01_VarintMore.walk (P : billetlaw01_VarintMore.Pure) (a0 : Int) (a1 : ByteArray) (a2 : ByteArray) (w : World) (w0 : (Lit.int .i64 a0).wf = true) (w1 : a1.size ≤ 140737488351232) (w2 : a2.size ≤ 140737488351232) :
    Calls Try.prog 12 #[.int .i64 a0, .string a1, .string a2] w fun e w' => e = .returned (.bool true) ∧ Below w.heap.size w w' := by
  obtain ⟨k, h⟩ := P a0 a1 a2 w0 w1 w2
  refine (billetlaw01_VarintMore.calls k a0 a1 a2 true w h).mono ?_
  rintro e w' ⟨rfl, hd⟩
  exact ⟨rfl, hd⟩

end Go.Proofs.Ytbgmgigjogoemaa.Q
