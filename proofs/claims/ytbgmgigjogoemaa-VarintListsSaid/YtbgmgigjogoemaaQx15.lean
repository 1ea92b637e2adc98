-- Written by a program of this session (mp.py).
import Derived.Test.YtbgmgigjogoemaaQx0
import Derived.Test.YtbgmgigjogoemaaQx9
namespace Go.Proofs.Ytbgmgigjogoemaa.Q
open Go.RowKit Go.Proofs.YtbgmgigjogoemaaW.PrintWords Go.Proofs.YtbgmgigjogoemaaW.PrintLast Go.Proofs.YtbgmgigjogoemaaW.PrintMore
attribute [local go_sem] max2_int min2_int max_two min_two max_three min_three max_four min_four   -- for this text's walks alone
open Go.Proofs.Ytbgmgigjogoemaa.Giv
set_option linter.unusedVariables false
set_option linter.unusedSimpArgs false

/-! ### billetlaw01_VarintLists: function 6 -/
mutual
def billetlaw01_VarintLists.l0 : Nat → List Int → List Int → Bool → ByteArray → ByteArray → Bool → Int → Option (Bool)
  | 0, _, _, _, _, _, _, _ => none
  | k + 1, x0, x1, x5, x6, x7, x8, x9 => if x9 < (x0.length : Int) then (if 0 ≤ x9 then ((varint_Num.f (rd x0 x9)).bind fun t153 => (if x6.size + t153.size ≤ 9223372036854775807 then (billetlaw01_VarintLists.l0 k x0 x1 x5 (x6 ++ t153) x7 x8 (wrap64 (x9 + 1))) else (none))) else (none)) else (billetlaw01_VarintLists.l1 k x0 x1 x5 x6 x7 x8 0)
def billetlaw01_VarintLists.l1 : Nat → List Int → List Int → Bool → ByteArray → ByteArray → Bool → Int → Option (Bool)
  | 0, _, _, _, _, _, _, _ => none
  | k + 1, x0, x1, x5, x6, x7, x8, x10 => if x10 < (x1.length : Int) then (if 0 ≤ x10 then ((varint_Num.f (rd x1 x10)).bind fun t155 => (if x7.size + t155.size ≤ 9223372036854775807 then (billetlaw01_VarintLists.l1 k x0 x1 x5 x6 (x7 ++ t155) x8 (wrap64 (x10 + 1))) else (none))) else (none)) else (billetlaw01_VarintLists.l2 k x0 x1 x5 x6 x7 x8 0)
def billetlaw01_VarintLists.l2 : Nat → List Int → List Int → Bool → ByteArray → ByteArray → Bool → Int → Option (Bool)
  | 0, _, _, _, _, _, _, _ => none
  | k + 1, x0, x1, x5, x6, x7, x8, x11 => if x11 < (x0.length : Int) then (if x11 < (x1.length : Int) then (if x8 = true then (if 0 ≤ x11 then (billetlaw01_VarintLists.l2 k x0 x1 x5 x6 x7 ((rd x0 x11) == (rd x1 x11)) (wrap64 (x11 + 1))) else (none)) else (billetlaw01_VarintLists.l2 k x0 x1 x5 x6 x7 false (wrap64 (x11 + 1)))) else (if x5 = true then (if 0 ≤ (mn (x6.size : Int) (x7.size : Int)) then (if (mn (x6.size : Int) (x7.size : Int)) ≤ (x6.size : Int) then (if (mn (x6.size : Int) (x7.size : Int)) ≤ (x7.size : Int) then (if (((x6.extract 0 ((mn (x6.size : Int) (x7.size : Int)) : Int).toNat).toList == (x7.extract 0 ((mn (x6.size : Int) (x7.size : Int)) : Int).toNat).toList) == x8) = true then (some (decide ((x6.size : Int) ≥ (x0.length : Int)))) else (some false)) else (none)) else (none)) else (none)) else (some false))) else (if x5 = true then (if 0 ≤ (mn (x6.size : Int) (x7.size : Int)) then (if (mn (x6.size : Int) (x7.size : Int)) ≤ (x6.size : Int) then (if (mn (x6.size : Int) (x7.size : Int)) ≤ (x7.size : Int) then (if (((x6.extract 0 ((mn (x6.size : Int) (x7.size : Int)) : Int).toNat).toList == (x7.extract 0 ((mn (x6.size : Int) (x7.size : Int)) : Int).toNat).toList) == x8) = true then (some (decide ((x6.size : Int) ≥ (x0.length : Int)))) else (some false)) else (none)) else (none)) else (none)) else (some false))
end
def billetlaw01_VarintLists.f (k : Nat) (l0 : List Int) (l1 : List Int) : Option (Bool) := (billetlaw01_awake.f k).bind fun t149 => (if 0 ≤ (mn (l0.length : Int) 30) then (if (mn (l0.length : Int) 30) ≤ (l0.length : Int) then (if 0 ≤ (mn (l1.length : Int) 30) then (if (mn (l1.length : Int) 30) ≤ (l1.length : Int) then (billetlaw01_VarintLists.l0 k (l0.take ((mn (l0.length : Int) 30) : Int).toNat) (l1.take ((mn (l1.length : Int) 30) : Int).toNat) t149 (⟨#[]⟩ : ByteArray) (⟨#[]⟩ : ByteArray) true 0) else (none)) else (none)) else (none)) else (none))
theorem billetlaw01_VarintLists.mono_l : ∀ k, (∀ y0 y1 y2 y3 y4 y5 y6, LeO (billetlaw01_VarintLists.l0 k y0 y1 y2 y3 y4 y5 y6) (billetlaw01_VarintLists.l0 (k + 1) y0 y1 y2 y3 y4 y5 y6)) ∧ (∀ y0 y1 y2 y3 y4 y5 y6, LeO (billetlaw01_VarintLists.l1 k y0 y1 y2 y3 y4 y5 y6) (billetlaw01_VarintLists.l1 (k + 1) y0 y1 y2 y3 y4 y5 y6)) ∧ (∀ y0 y1 y2 y3 y4 y5 y6, LeO (billetlaw01_VarintLists.l2 k y0 y1 y2 y3 y4 y5 y6) (billetlaw01_VarintLists.l2 (k + 1) y0 y1 y2 y3 y4 y5 y6))
  | 0 => ⟨fun _ _ _ _ _ _ _ r h => by simp [billetlaw01_VarintLists.l0] at h, fun _ _ _ _ _ _ _ r h => by simp [billetlaw01_VarintLists.l1] at h, fun _ _ _ _ _ _ _ r h => by simp [billetlaw01_VarintLists.l2] at h⟩
  | k + 1 => by
    obtain ⟨ih0, ih1, ih2⟩ := billetlaw01_VarintLists.mono_l k
    refine ⟨?_, ?_, ?_⟩
    · intro y0 y1 y2 y3 y4 y5 y6
      unfold billetlaw01_VarintLists.l0
      repeat' first
      | (with_reducible exact ih0 _ _ _ _ _ _ _)
      | (with_reducible exact ih1 _ _ _ _ _ _ _)
      | (with_reducible exact ih2 _ _ _ _ _ _ _)
      | (with_reducible exact billetlaw01_awake.mono _)
      | (with_reducible exact LeO.refl _)
      | (with_reducible exact LeO.none _)
      | (with_reducible refine LeO.ite ?_ ?_)
      | (with_reducible refine LeO.bind ?_ (fun _ => ?_))
      | exact ih0 _ _ _ _ _ _ _
      | exact ih1 _ _ _ _ _ _ _
      | exact ih2 _ _ _ _ _ _ _
      | exact billetlaw01_awake.mono _
      | exact LeO.none _
      | refine LeO.ite ?_ ?_
      | refine LeO.bind ?_ (fun _ => ?_)
    · intro y0 y1 y2 y3 y4 y5 y6
      unfold billetlaw01_VarintLists.l1
      repeat' first
      | (with_reducible exact ih0 _ _ _ _ _ _ _)
      | (with_reducible exact ih1 _ _ _ _ _ _ _)
      | (with_reducible exact ih2 _ _ _ _ _ _ _)
      | (with_reducible exact billetlaw01_awake.mono _)
      | (with_reducible exact LeO.refl _)
      | (with_reducible exact LeO.none _)
      | (with_reducible refine LeO.ite ?_ ?_)
      | (with_reducible refine LeO.bind ?_ (fun _ => ?_))
      | exact ih0 _ _ _ _ _ _ _
      | exact ih1 _ _ _ _ _ _ _
      | exact ih2 _ _ _ _ _ _ _
      | exact billetlaw01_awake.mono _
      | exact LeO.none _
      | refine LeO.ite ?_ ?_
      | refine LeO.bind ?_ (fun _ => ?_)
    · intro y0 y1 y2 y3 y4 y5 y6
      unfold billetlaw01_VarintLists.l2
      repeat' first
      | (with_reducible exact ih0 _ _ _ _ _ _ _)
      | (with_reducible exact ih1 _ _ _ _ _ _ _)
      | (with_reducible exact ih2 _ _ _ _ _ _ _)
      | (with_reducible exact billetlaw01_awake.mono _)
      | (with_reducible exact LeO.refl _)
      | (with_reducible exact LeO.none _)
      | (with_reducible refine LeO.ite ?_ ?_)
      | (with_reducible refine LeO.bind ?_ (fun _ => ?_))
      | exact ih0 _ _ _ _ _ _ _
      | exact ih1 _ _ _ _ _ _ _
      | exact ih2 _ _ _ _ _ _ _
      | exact billetlaw01_awake.mono _
      | exact LeO.none _
      | refine LeO.ite ?_ ?_
      | refine LeO.bind ?_ (fun _ => ?_)
theorem billetlaw01_VarintLists.mono : ∀ a0 a1 k, LeO (billetlaw01_VarintLists.f k a0 a1) (billetlaw01_VarintLists.f (k + 1) a0 a1) := by
  intro a0 a1 k
  obtain ⟨ih0, ih1, ih2⟩ := billetlaw01_VarintLists.mono_l k
  unfold billetlaw01_VarintLists.f
  repeat' first
      | (with_reducible exact ih0 _ _ _ _ _ _ _)
      | (with_reducible exact ih1 _ _ _ _ _ _ _)
      | (with_reducible exact ih2 _ _ _ _ _ _ _)
      | (with_reducible exact billetlaw01_awake.mono _)
      | (with_reducible exact LeO.refl _)
      | (with_reducible exact LeO.none _)
      | (with_reducible refine LeO.ite ?_ ?_)
      | (with_reducible refine LeO.bind ?_ (fun _ => ?_))
      | exact ih0 _ _ _ _ _ _ _
      | exact ih1 _ _ _ _ _ _ _
      | exact ih2 _ _ _ _ _ _ _
      | exact billetlaw01_awake.mono _
      | exact LeO.none _
      | refine LeO.ite ?_ ?_
      | refine LeO.bind ?_ (fun _ => ?_)
set_option maxHeartbeats 8000000 in
set_option maxRecDepth 100000 in
theorem billetlaw01_VarintLists.calls (k : Nat) (A0 : Option Addr) (c0 : Nat) (l0 : List Int) (A1 : Option Addr) (c1 : Nat) (l1 : List Int) (r : Bool) (w : World) (hr0 : Kd.C (Kd.int .i64) w A0 l0.length l0) (hc0 : l0.length ≤ c0) (hr1 : Kd.C (Kd.int .i64) w A1 l1.length l1) (hc1 : l1.length ≤ c1) (h : billetlaw01_VarintLists.f k l0 l1 = some r) :
    Calls Try.prog 6 #[.slice A0 l0.length c0, .slice A1 l1.length c1] w fun e w' => e = .returned (.bool r) ∧ Below w.heap.size w w' := by
  have HR0 := Aside0.mk hr0
  have HC0 := Aside0.mk hc0
  clear hr0 hc0
  have HR1 := Aside0.mk hr1
  have HC1 := Aside0.mk hc1
  clear hr1 hc1
  have HB := Aside0.mk (Below.refl w.heap.size w)
  have H : ((billetlaw01_awake.f k).bind fun t149 => (if 0 ≤ (mn (l0.length : Int) 30) then (if (mn (l0.length : Int) 30) ≤ (l0.length : Int) then (if 0 ≤ (mn (l1.length : Int) 30) then (if (mn (l1.length : Int) 30) ≤ (l1.length : Int) then (billetlaw01_VarintLists.l0 k (l0.take ((mn (l0.length : Int) 30) : Int).toNat) (l1.take ((mn (l1.length : Int) 30) : Int).toNat) t149 (⟨#[]⟩ : ByteArray) (⟨#[]⟩ : ByteArray) true 0) else (none)) else (none)) else (none)) else (none))) = some r := h
  clear h
  replace H := Option.bind_eq_some_iff.mp H
  obtain ⟨t149, A30, H⟩ := H
  replace H : (if 0 ≤ (mn (l0.length : Int) 30) then (if (mn (l0.length : Int) 30) ≤ (l0.length : Int) then (if 0 ≤ (mn (l1.length : Int) 30) then (if (mn (l1.length : Int) 30) ≤ (l1.length : Int) then (billetlaw01_VarintLists.l0 k (l0.take ((mn (l0.length : Int) 30) : Int).toNat) (l1.take ((mn (l1.length : Int) 30) : Int).toNat) t149 (⟨#[]⟩ : ByteArray) (⟨#[]⟩ : ByteArray) true 0) else (none)) else (none)) else (none)) else (none)) = some r := H
  have A3 := Aside0.mk A30
  clear A30
  obtain ⟨ji4, hji4⟩ : ∃ j_ : Int, (mn (l0.length : Int) 30) = j_ := ⟨_, rfl⟩
  replace H : (if 0 ≤ (ji4) then (if (ji4) ≤ (l0.length : Int) then (if 0 ≤ (mn (l1.length : Int) 30) then (if (mn (l1.length : Int) 30) ≤ (l1.length : Int) then (billetlaw01_VarintLists.l0 k (l0.take ((ji4) : Int).toNat) (l1.take ((mn (l1.length : Int) 30) : Int).toNat) t149 (⟨#[]⟩ : ByteArray) (⟨#[]⟩ : ByteArray) true 0) else (none)) else (none)) else (none)) else (none)) = some r := by first | (rw [hji4] at H; exact H) | (simp only [hji4] at H ⊢; exact H)
  (try rw [hji4] at A3)
  (try (have hji4h : ji4 ≤ 30 := by (rw [← hji4]; unfold mn; (repeat' split) <;> omega)))
  (try (have hji4g : ji4 ≤ 64 := by omega))
  (try (have hji4l : 0 ≤ ji4 := by (rw [← hji4]; unfold mn; (repeat' split) <;> omega)))
  (try (have hji4m : 0 ≤ ji4 := by omega))
  have hji4_ : (if 30 < (l0.length : Int) then 30 else (l0.length : Int)) = ji4 := hji4
  by_cases c5 : 0 ≤ (ji4)
  · rw [if_pos c5] at H
    have c5b0 := eq_true c5
    have c5b1 : decide (0 ≤ (ji4)) = true := decide_eq_true c5
    clear c5
    by_cases c6 : (ji4) ≤ (l0.length : Int)
    · rw [if_pos c6] at H
      (try have hle_ji4 := c6)
      (try have hmx_ji4 : max ji4 0 = ji4 := by omega)
      have c6b0 := eq_true c6
      have c6b1 : decide ((ji4) ≤ (l0.length : Int)) = true := decide_eq_true c6
      clear c6
      obtain ⟨ji7, hji7⟩ : ∃ j_ : Int, (mn (l1.length : Int) 30) = j_ := ⟨_, rfl⟩
      replace H : (if 0 ≤ (ji7) then (if (ji7) ≤ (l1.length : Int) then (billetlaw01_VarintLists.l0 k (l0.take ((ji4) : Int).toNat) (l1.take ((ji7) : Int).toNat) t149 (⟨#[]⟩ : ByteArray) (⟨#[]⟩ : ByteArray) true 0) else (none)) else (none)) = some r := by first | (rw [hji7] at H; exact H) | (simp only [hji7] at H ⊢; exact H)
      (try rw [hji7] at A3)
      (try (have hji7h : ji7 ≤ 30 := by (rw [← hji7]; unfold mn; (repeat' split) <;> omega)))
      (try (have hji7g : ji7 ≤ 64 := by omega))
      (try (have hji7l : 0 ≤ ji7 := by (rw [← hji7]; unfold mn; (repeat' split) <;> omega)))
      (try (have hji7m : 0 ≤ ji7 := by omega))
      have hji7_ : (if 30 < (l1.length : Int) then 30 else (l1.length : Int)) = ji7 := hji7
      by_cases c8 : 0 ≤ (ji7)
      · rw [if_pos c8] at H
        have c8b0 := eq_true c8
        have c8b1 : decide (0 ≤ (ji7)) = true := decide_eq_true c8
        clear c8
        by_cases c9 : (ji7) ≤ (l1.length : Int)
        · rw [if_pos c9] at H
          (try have hle_ji7 := c9)
          (try have hmx_ji7 : max ji7 0 = ji7 := by omega)
          have c9b0 := eq_true c9
          have c9b1 : decide ((ji7) ≤ (l1.length : Int)) = true := decide_eq_true c9
          clear c9
          have H' := Aside0.mk H
          clear H
          go_enter Try.func6, Try.ntmps6
          go_wp2_with (first | (go_at_call 13; (with_reducible refine (billetlaw01_awake.calls k  t149 _ A3.out).mono ?_); rintro e w10 ⟨rfl, hb⟩; have n0_ := Aside0.mk (below_step (by repeat (first | (with_reducible first | exact HB.out | apply below_alloc | apply pw_below_drewN | apply below_drew1) | exact HB.out)) hb); clear HB; have HB := n0_; clear n0_; (try clear hb); (try clear hb2); (try clear hk); (try clear hi); obtain ⟨i011, hi011, _, hsz11, _⟩ := info_parts info3; obtain ⟨hcut11, hA11, hC11⟩ := print_take_of (P := Try.prog) (Value.int .i64) 0 28 3 .i64 Try.underlying28 hi011 hsz11 A0 c0 l0 (ji4) (of_decide_eq_true (by first | (with_reducible assumption) | assumption)) (of_decide_eq_true (by first | (with_reducible assumption) | assumption)) HC0.out; have HR150 := Aside0.mk (Kd.C_of_reads (h1 := fun _ => rfl) (hA11 _ (Kd.reads_of_C HR0.out))); have HC150 := Aside0.mk hC11; clear hA11 hC11 hi011 hsz11; obtain ⟨i012, hi012, _, hsz12, _⟩ := info_parts info3; obtain ⟨hcut12, hA12, hC12⟩ := print_take_of (P := Try.prog) (Value.int .i64) 0 28 3 .i64 Try.underlying28 hi012 hsz12 A1 c1 l1 (ji7) (of_decide_eq_true (by first | (with_reducible assumption) | assumption)) (of_decide_eq_true (by first | (with_reducible assumption) | assumption)) HC1.out; have HR151 := Aside0.mk (Kd.C_of_reads (h1 := fun _ => rfl) (hA12 _ (Kd.reads_of_C HR1.out))); have HC151 := Aside0.mk hC12; clear hA12 hC12 hi012 hsz12))
          repeat (go_quiet (first | (go_at_call 13; (with_reducible refine (billetlaw01_awake.calls k  t149 _ A3.out).mono ?_); rintro e w10 ⟨rfl, hb⟩; have n0_ := Aside0.mk (below_step (by repeat (first | (with_reducible first | exact HB.out | apply below_alloc | apply pw_below_drewN | apply below_drew1) | exact HB.out)) hb); clear HB; have HB := n0_; clear n0_; (try clear hb); (try clear hb2); (try clear hk); (try clear hi); obtain ⟨i011, hi011, _, hsz11, _⟩ := info_parts info3; obtain ⟨hcut11, hA11, hC11⟩ := print_take_of (P := Try.prog) (Value.int .i64) 0 28 3 .i64 Try.underlying28 hi011 hsz11 A0 c0 l0 (ji4) (of_decide_eq_true (by first | (with_reducible assumption) | assumption)) (of_decide_eq_true (by first | (with_reducible assumption) | assumption)) HC0.out; have HR150 := Aside0.mk (Kd.C_of_reads (h1 := fun _ => rfl) (hA11 _ (Kd.reads_of_C HR0.out))); have HC150 := Aside0.mk hC11; clear hA11 hC11 hi011 hsz11; obtain ⟨i012, hi012, _, hsz12, _⟩ := info_parts info3; obtain ⟨hcut12, hA12, hC12⟩ := print_take_of (P := Try.prog) (Value.int .i64) 0 28 3 .i64 Try.underlying28 hi012 hsz12 A1 c1 l1 (ji7) (of_decide_eq_true (by first | (with_reducible assumption) | assumption)) (of_decide_eq_true (by first | (with_reducible assumption) | assumption)) HC1.out; have HR151 := Aside0.mk (Kd.C_of_reads (h1 := fun _ => rfl) (hA12 _ (Kd.reads_of_C HR1.out))); have HC151 := Aside0.mk hC12; clear hA12 hC12 hi012 hsz12)); try go_wp2_with (first | (go_at_call 13; (with_reducible refine (billetlaw01_awake.calls k  t149 _ A3.out).mono ?_); rintro e w10 ⟨rfl, hb⟩; have n0_ := Aside0.mk (below_step (by repeat (first | (with_reducible first | exact HB.out | apply below_alloc | apply pw_below_drewN | apply below_drew1) | exact HB.out)) hb); clear HB; have HB := n0_; clear n0_; (try clear hb); (try clear hb2); (try clear hk); (try clear hi); obtain ⟨i011, hi011, _, hsz11, _⟩ := info_parts info3; obtain ⟨hcut11, hA11, hC11⟩ := print_take_of (P := Try.prog) (Value.int .i64) 0 28 3 .i64 Try.underlying28 hi011 hsz11 A0 c0 l0 (ji4) (of_decide_eq_true (by first | (with_reducible assumption) | assumption)) (of_decide_eq_true (by first | (with_reducible assumption) | assumption)) HC0.out; have HR150 := Aside0.mk (Kd.C_of_reads (h1 := fun _ => rfl) (hA11 _ (Kd.reads_of_C HR0.out))); have HC150 := Aside0.mk hC11; clear hA11 hC11 hi011 hsz11; obtain ⟨i012, hi012, _, hsz12, _⟩ := info_parts info3; obtain ⟨hcut12, hA12, hC12⟩ := print_take_of (P := Try.prog) (Value.int .i64) 0 28 3 .i64 Try.underlying28 hi012 hsz12 A1 c1 l1 (ji7) (of_decide_eq_true (by first | (with_reducible assumption) | assumption)) (of_decide_eq_true (by first | (with_reducible assumption) | assumption)) HC1.out; have HR151 := Aside0.mk (Kd.C_of_reads (h1 := fun _ => rfl) (hA12 _ (Kd.reads_of_C HR1.out))); have HC151 := Aside0.mk hC12; clear hA12 hC12 hi012 hsz12)))
          go_loopg [6, 9] k (fun kq v6 v9 w' => ∃ (x6_1 : ByteArray) (x9_1 : Int), v6 = .string x6_1 ∧ v9 = .int .i64 x9_1 ∧ Aside0 (billetlaw01_VarintLists.l0 kq (l0.take ((ji4) : Int).toNat) (l1.take ((ji7) : Int).toNat) t149 x6_1 (⟨#[]⟩ : ByteArray) true x9_1 = some r) ∧ Aside0 (kq ≤ k) ∧ Aside0 (Below w.heap.size w w'))
          case atStart => exact ⟨((⟨#[]⟩ : ByteArray)), (0), (by first | rfl | (simp; done) | (simp [*]; done)), (by first | rfl | (simp; done) | (simp [*]; done)), H', ⟨Nat.le_refl _⟩, ⟨by repeat (first | (with_reducible first | exact HB.out | apply below_alloc | apply pw_below_drewN | apply below_drew1) | exact HB.out)⟩⟩
          case round =>
            clear H'
            try clear c1
            try clear p2
            try clear c5
            try clear c5b0
            try clear c5b1
            try clear c6
            try clear c6b0
            try clear c6b1
            try clear c8
            try clear c8b0
            try clear c8b1
            try clear c9
            try clear c9b0
            try clear c9b1
            obtain ⟨x6_1, x9_1, rfl, rfl, HA, HK1, HB⟩ := hrel
            cases gk with
            | zero => exact absurd HA.out (by simp [billetlaw01_VarintLists.l0])
            | succ k1 =>
              have H := HA.out
              clear HA
              simp only [billetlaw01_VarintLists.l0] at H
              by_cases c13 : x9_1 < ((l0.take ((ji4) : Int).toNat).length : Int)
              · rw [if_pos c13] at H
                have c13b0 : decide (x9_1 < ((l0.take ((ji4) : Int).toNat).length : Int)) = true := decide_eq_true c13
                (try have c13b0z : decide (x9_1 < ji4) = true := by (have hz_ := c13b0; rw [show ((l0.take ((ji4) : Int).toNat).length : Int) = ji4 by (rw [List.length_take]; omega)] at hz_; exact hz_))
                clear c13
                by_cases c14 : 0 ≤ x9_1
                · rw [if_pos c14] at H
                  have c14b0 : decide (0 ≤ x9_1) = true := decide_eq_true c14
                  clear c14
                  replace H := Option.bind_eq_some_iff.mp H
                  obtain ⟨t153, A150, H⟩ := H
                  replace H : (if x6_1.size + t153.size ≤ 9223372036854775807 then (billetlaw01_VarintLists.l0 k1 (l0.take ((ji4) : Int).toNat) (l1.take ((ji7) : Int).toNat) t149 (x6_1 ++ t153) (⟨#[]⟩ : ByteArray) true (wrap64 (x9_1 + 1))) else (none)) = some r := H
                  have A15 := Aside0.mk A150
                  clear A150
                  by_cases c16 : x6_1.size + t153.size ≤ 9223372036854775807
                  · rw [if_pos c16] at H
                    have c16b0 := eq_true c16
                    have c16b1 : decide (x6_1.size + t153.size ≤ 9223372036854775807) = true := decide_eq_true c16
                    try have c16b2 : (9223372036854775807 < x6_1.size + t153.size) = False := eq_false (Nat.not_lt.2 c16)
                    have H' := Aside0.mk H
                    clear H
                    have p152 : 0 ≤ (x9_1 : Int) := of_decide_eq_true (by first | (with_reducible assumption) | assumption)
                    have q152 : x9_1 < ((l0.take ((ji4) : Int).toNat).length : Int) := of_decide_eq_true (by first | (with_reducible assumption) | assumption)
                    (try have q152z : x9_1 < ji4 := by (have hz_ := q152; rw [show ((l0.take ((ji4) : Int).toNat).length : Int) = ji4 by (rw [List.length_take]; omega)] at hz_; exact hz_))
                    obtain ⟨ad152, e152, hx152_0⟩ := Kd.at_int HR150.out x9_1 p152 q152
                    cases e152
                    replace hx152_0 := (HB.out.cell (World.block_lt_of_cell? w _ hx152_0)).trans hx152_0
                    replace p152 := eq_true p152
                    (try replace p152z := eq_true p152z)
                    replace q152 := eq_true q152
                    (try replace q152z := eq_true q152z)
                    go_wp2_with (first | (go_at_call 14; (with_reducible refine (varint_Num.calls (rd (l0.take ((ji4) : Int).toNat) x9_1) t153 _ A15.out).mono ?_); rintro e w17 ⟨rfl, hb⟩; have n0_ := Aside0.mk (below_step (by repeat (first | (with_reducible first | exact HB.out | apply below_alloc | apply pw_below_drewN | apply below_drew1) | exact HB.out)) hb); clear HB; have HB := n0_; clear n0_; (try clear hb); (try clear hb2); (try clear hk); (try clear hi)))
                    repeat (go_quiet (first | (go_at_call 14; (with_reducible refine (varint_Num.calls (rd (l0.take ((ji4) : Int).toNat) x9_1) t153 _ A15.out).mono ?_); rintro e w17 ⟨rfl, hb⟩; have n0_ := Aside0.mk (below_step (by repeat (first | (with_reducible first | exact HB.out | apply below_alloc | apply pw_below_drewN | apply below_drew1) | exact HB.out)) hb); clear HB; have HB := n0_; clear n0_; (try clear hb); (try clear hb2); (try clear hk); (try clear hi))); try go_wp2_with (first | (go_at_call 14; (with_reducible refine (varint_Num.calls (rd (l0.take ((ji4) : Int).toNat) x9_1) t153 _ A15.out).mono ?_); rintro e w17 ⟨rfl, hb⟩; have n0_ := Aside0.mk (below_step (by repeat (first | (with_reducible first | exact HB.out | apply below_alloc | apply pw_below_drewN | apply below_drew1) | exact HB.out)) hb); clear HB; have HB := n0_; clear n0_; (try clear hb); (try clear hb2); (try clear hk); (try clear hi))))
                    go_roundg k1
                    case measure => have := HK1.out; omega
                    case rel => exact ⟨(x6_1 ++ t153), (wrap64 (x9_1 + 1)), (by first | rfl | (simp; done) | (simp [*]; done)), (by first | rfl | (simp; done) | (simp [*]; done)), H', ⟨by have := HK1.out; omega⟩, ⟨by repeat (first | (with_reducible first | exact HB.out | apply below_alloc | apply pw_below_drewN | apply below_drew1) | exact HB.out)⟩⟩
                  · rw [if_neg c16] at H
                    exact absurd H (by simp)
                · rw [if_neg c14] at H
                  exact absurd H (by simp)
              · rw [if_neg c13] at H
                have c13b0 : decide (x9_1 < ((l0.take ((ji4) : Int).toNat).length : Int)) = false := decide_eq_false c13
                (try have c13b0z : decide (x9_1 < ji4) = false := by (have hz_ := c13b0; rw [show ((l0.take ((ji4) : Int).toNat).length : Int) = ji4 by (rw [List.length_take]; omega)] at hz_; exact hz_))
                clear c13
                have H' := Aside0.mk H
                clear H
                go_wp2
                repeat (go_quiet (fail); try go_wp2)
                go_loopg [7, 10] k1 (fun kq v7 v10 w' => ∃ (x7_2 : ByteArray) (x10_2 : Int), v7 = .string x7_2 ∧ v10 = .int .i64 x10_2 ∧ Aside0 (billetlaw01_VarintLists.l1 kq (l0.take ((ji4) : Int).toNat) (l1.take ((ji7) : Int).toNat) t149 x6_1 x7_2 true x10_2 = some r) ∧ Aside0 (kq ≤ k1) ∧ Aside0 (Below w.heap.size w w'))
                case atStart => exact ⟨((⟨#[]⟩ : ByteArray)), (0), (by first | rfl | (simp; done) | (simp [*]; done)), (by first | rfl | (simp; done) | (simp [*]; done)), H', ⟨Nat.le_refl _⟩, ⟨by repeat (first | (with_reducible first | exact HB.out | apply below_alloc | apply pw_below_drewN | apply below_drew1) | exact HB.out)⟩⟩
                case round =>
                  clear H'
                  try clear c1
                  try clear p1
                  try clear q1
                  try clear hx1
                  try clear p2
                  try clear c5
                  try clear c5b0
                  try clear c5b1
                  try clear c6
                  try clear c6b0
                  try clear c6b1
                  try clear p6
                  try clear c8
                  try clear c8b0
                  try clear c8b1
                  try clear c9
                  try clear c9b0
                  try clear c9b1
                  try clear c13
                  try clear c13b0
                  try clear c14
                  try clear c14b0
                  try clear p15
                  try clear q15
                  try clear hx15
                  try clear c16
                  try clear c16b0
                  try clear c16b1
                  try clear c16b2
                  try clear hx152_0
                  try clear p152
                  try clear p2
                  try clear q152
                  obtain ⟨x7_2, x10_2, rfl, rfl, HA, HK2, HB⟩ := hrel
                  cases gk with
                  | zero => exact absurd HA.out (by simp [billetlaw01_VarintLists.l1])
                  | succ k2 =>
                    have H := HA.out
                    clear HA
                    simp only [billetlaw01_VarintLists.l1] at H
                    by_cases c18 : x10_2 < ((l1.take ((ji7) : Int).toNat).length : Int)
                    · rw [if_pos c18] at H
                      have c18b0 : decide (x10_2 < ((l1.take ((ji7) : Int).toNat).length : Int)) = true := decide_eq_true c18
                      (try have c18b0z : decide (x10_2 < ji7) = true := by (have hz_ := c18b0; rw [show ((l1.take ((ji7) : Int).toNat).length : Int) = ji7 by (rw [List.length_take]; omega)] at hz_; exact hz_))
                      clear c18
                      by_cases c19 : 0 ≤ x10_2
                      · rw [if_pos c19] at H
                        have c19b0 : decide (0 ≤ x10_2) = true := decide_eq_true c19
                        clear c19
                        replace H := Option.bind_eq_some_iff.mp H
                        obtain ⟨t155, A200, H⟩ := H
                        replace H : (if x7_2.size + t155.size ≤ 9223372036854775807 then (billetlaw01_VarintLists.l1 k2 (l0.take ((ji4) : Int).toNat) (l1.take ((ji7) : Int).toNat) t149 x6_1 (x7_2 ++ t155) true (wrap64 (x10_2 + 1))) else (none)) = some r := H
                        have A20 := Aside0.mk A200
                        clear A200
                        by_cases c21 : x7_2.size + t155.size ≤ 9223372036854775807
                        · rw [if_pos c21] at H
                          have c21b0 := eq_true c21
                          have c21b1 : decide (x7_2.size + t155.size ≤ 9223372036854775807) = true := decide_eq_true c21
                          try have c21b2 : (9223372036854775807 < x7_2.size + t155.size) = False := eq_false (Nat.not_lt.2 c21)
                          have H' := Aside0.mk H
                          clear H
                          have p154 : 0 ≤ (x10_2 : Int) := of_decide_eq_true (by first | (with_reducible assumption) | assumption)
                          have q154 : x10_2 < ((l1.take ((ji7) : Int).toNat).length : Int) := of_decide_eq_true (by first | (with_reducible assumption) | assumption)
                          (try have q154z : x10_2 < ji7 := by (have hz_ := q154; rw [show ((l1.take ((ji7) : Int).toNat).length : Int) = ji7 by (rw [List.length_take]; omega)] at hz_; exact hz_))
                          obtain ⟨ad154, e154, hx154_0⟩ := Kd.at_int HR151.out x10_2 p154 q154
                          cases e154
                          replace hx154_0 := (HB.out.cell (World.block_lt_of_cell? w _ hx154_0)).trans hx154_0
                          replace p154 := eq_true p154
                          (try replace p154z := eq_true p154z)
                          replace q154 := eq_true q154
                          (try replace q154z := eq_true q154z)
                          go_wp2_with (first | (go_at_call 14; (with_reducible refine (varint_Num.calls (rd (l1.take ((ji7) : Int).toNat) x10_2) t155 _ A20.out).mono ?_); rintro e w22 ⟨rfl, hb⟩; have n0_ := Aside0.mk (below_step (by repeat (first | (with_reducible first | exact HB.out | apply below_alloc | apply pw_below_drewN | apply below_drew1) | exact HB.out)) hb); clear HB; have HB := n0_; clear n0_; (try clear hb); (try clear hb2); (try clear hk); (try clear hi)))
                          repeat (go_quiet (first | (go_at_call 14; (with_reducible refine (varint_Num.calls (rd (l1.take ((ji7) : Int).toNat) x10_2) t155 _ A20.out).mono ?_); rintro e w22 ⟨rfl, hb⟩; have n0_ := Aside0.mk (below_step (by repeat (first | (with_reducible first | exact HB.out | apply below_alloc | apply pw_below_drewN | apply below_drew1) | exact HB.out)) hb); clear HB; have HB := n0_; clear n0_; (try clear hb); (try clear hb2); (try clear hk); (try clear hi))); try go_wp2_with (first | (go_at_call 14; (with_reducible refine (varint_Num.calls (rd (l1.take ((ji7) : Int).toNat) x10_2) t155 _ A20.out).mono ?_); rintro e w22 ⟨rfl, hb⟩; have n0_ := Aside0.mk (below_step (by repeat (first | (with_reducible first | exact HB.out | apply below_alloc | apply pw_below_drewN | apply below_drew1) | exact HB.out)) hb); clear HB; have HB := n0_; clear n0_; (try clear hb); (try clear hb2); (try clear hk); (try clear hi))))
                          go_roundg k2
                          case measure => have := HK1.out; have := HK2.out; omega
                          case rel => exact ⟨(x7_2 ++ t155), (wrap64 (x10_2 + 1)), (by first | rfl | (simp; done) | (simp [*]; done)), (by first | rfl | (simp; done) | (simp [*]; done)), H', ⟨by have := HK1.out; have := HK2.out; omega⟩, ⟨by repeat (first | (with_reducible first | exact HB.out | apply below_alloc | apply pw_below_drewN | apply below_drew1) | exact HB.out)⟩⟩
                        · rw [if_neg c21] at H
                          exact absurd H (by simp)
                      · rw [if_neg c19] at H
                        exact absurd H (by simp)
                    · rw [if_neg c18] at H
                      have c18b0 : decide (x10_2 < ((l1.take ((ji7) : Int).toNat).length : Int)) = false := decide_eq_false c18
                      (try have c18b0z : decide (x10_2 < ji7) = false := by (have hz_ := c18b0; rw [show ((l1.take ((ji7) : Int).toNat).length : Int) = ji7 by (rw [List.length_take]; omega)] at hz_; exact hz_))
                      clear c18
                      have H' := Aside0.mk H
                      clear H
                      go_wp2
                      repeat (go_quiet (fail); try go_wp2)
                      go_loopg [8, 11] k2 (fun kq v8 v11 w' => ∃ (x8_3 : Bool) (x11_3 : Int), v8 = .bool x8_3 ∧ v11 = .int .i64 x11_3 ∧ Aside0 (billetlaw01_VarintLists.l2 kq (l0.take ((ji4) : Int).toNat) (l1.take ((ji7) : Int).toNat) t149 x6_1 x7_2 x8_3 x11_3 = some r) ∧ Aside0 (kq ≤ k2) ∧ Aside0 (Below w.heap.size w w'))
                      case atStart => exact ⟨(true), (0), (by first | rfl | (simp; done) | (simp [*]; done)), (by first | rfl | (simp; done) | (simp [*]; done)), H', ⟨Nat.le_refl _⟩, ⟨by repeat (first | (with_reducible first | exact HB.out | apply below_alloc | apply pw_below_drewN | apply below_drew1) | exact HB.out)⟩⟩
                      case round =>
                        clear H'
                        try clear c1
                        try clear p1
                        try clear q1
                        try clear hx1
                        try clear c2
                        try clear p2
                        try clear c5
                        try clear c5b0
                        try clear c5b1
                        try clear c6
                        try clear c6b0
                        try clear c6b1
                        try clear p6
                        try clear c8
                        try clear c8b0
                        try clear c8b1
                        try clear c9
                        try clear c9b0
                        try clear c9b1
                        try clear c13
                        try clear c13b0
                        try clear c14
                        try clear c14b0
                        try clear p15
                        try clear q15
                        try clear hx15
                        try clear c16
                        try clear c16b0
                        try clear c16b1
                        try clear c16b2
                        try clear c18
                        try clear c18b0
                        try clear c19
                        try clear c19b0
                        try clear c21
                        try clear c21b0
                        try clear c21b1
                        try clear c21b2
                        try clear hx152_0
                        try clear hx154_0
                        try clear p1
                        try clear p15
                        try clear p152
                        try clear p154
                        try clear p2
                        try clear p6
                        try clear q1
                        try clear q15
                        try clear q152
                        try clear q154
                        obtain ⟨x8_3, x11_3, rfl, rfl, HA, HK3, HB⟩ := hrel
                        cases gk with
                        | zero => exact absurd HA.out (by simp [billetlaw01_VarintLists.l2])
                        | succ k3 =>
                          have H := HA.out
                          clear HA
                          simp only [billetlaw01_VarintLists.l2] at H
                          by_cases c23 : x11_3 < ((l0.take ((ji4) : Int).toNat).length : Int)
                          · rw [if_pos c23] at H
                            have c23b0 : decide (x11_3 < ((l0.take ((ji4) : Int).toNat).length : Int)) = true := decide_eq_true c23
                            (try have c23b0z : decide (x11_3 < ji4) = true := by (have hz_ := c23b0; rw [show ((l0.take ((ji4) : Int).toNat).length : Int) = ji4 by (rw [List.length_take]; omega)] at hz_; exact hz_))
                            clear c23
                            by_cases c24 : x11_3 < ((l1.take ((ji7) : Int).toNat).length : Int)
                            · rw [if_pos c24] at H
                              have c24b0 : decide (x11_3 < ((l1.take ((ji7) : Int).toNat).length : Int)) = true := decide_eq_true c24
                              (try have c24b0z : decide (x11_3 < ji7) = true := by (have hz_ := c24b0; rw [show ((l1.take ((ji7) : Int).toNat).length : Int) = ji7 by (rw [List.length_take]; omega)] at hz_; exact hz_))
                              clear c24
                              by_cases c25 : x8_3 = true
                              · subst c25
                                have H1 : (if 0 ≤ x11_3 then (billetlaw01_VarintLists.l2 k3 (l0.take ((ji4) : Int).toNat) (l1.take ((ji7) : Int).toNat) t149 x6_1 x7_2 ((rd (l0.take ((ji4) : Int).toNat) x11_3) == (rd (l1.take ((ji7) : Int).toNat) x11_3)) (wrap64 (x11_3 + 1))) else (none)) = some r := by rw [if_pos rfl] at H; exact H
                                clear H
                                have H := H1
                                clear H1
                                by_cases c26 : 0 ≤ x11_3
                                · rw [if_pos c26] at H
                                  have c26b0 : decide (0 ≤ x11_3) = true := decide_eq_true c26
                                  clear c26
                                  have H' := Aside0.mk H
                                  clear H
                                  have p156 : 0 ≤ (x11_3 : Int) := of_decide_eq_true (by first | (with_reducible assumption) | assumption)
                                  have q156 : x11_3 < ((l0.take ((ji4) : Int).toNat).length : Int) := of_decide_eq_true (by first | (with_reducible assumption) | assumption)
                                  (try have q156z : x11_3 < ji4 := by (have hz_ := q156; rw [show ((l0.take ((ji4) : Int).toNat).length : Int) = ji4 by (rw [List.length_take]; omega)] at hz_; exact hz_))
                                  obtain ⟨ad156, e156, hx156_0⟩ := Kd.at_int HR150.out x11_3 p156 q156
                                  cases e156
                                  replace hx156_0 := (HB.out.cell (World.block_lt_of_cell? w _ hx156_0)).trans hx156_0
                                  replace p156 := eq_true p156
                                  (try replace p156z := eq_true p156z)
                                  replace q156 := eq_true q156
                                  (try replace q156z := eq_true q156z)
                                  have p157 : 0 ≤ (x11_3 : Int) := of_decide_eq_true (by first | (with_reducible assumption) | assumption)
                                  have q157 : x11_3 < ((l1.take ((ji7) : Int).toNat).length : Int) := of_decide_eq_true (by first | (with_reducible assumption) | assumption)
                                  (try have q157z : x11_3 < ji7 := by (have hz_ := q157; rw [show ((l1.take ((ji7) : Int).toNat).length : Int) = ji7 by (rw [List.length_take]; omega)] at hz_; exact hz_))
                                  obtain ⟨ad157, e157, hx157_0⟩ := Kd.at_int HR151.out x11_3 p157 q157
                                  cases e157
                                  replace hx157_0 := (HB.out.cell (World.block_lt_of_cell? w _ hx157_0)).trans hx157_0
                                  replace p157 := eq_true p157
                                  (try replace p157z := eq_true p157z)
                                  replace q157 := eq_true q157
                                  (try replace q157z := eq_true q157z)
                                  go_wp2
                                  repeat (go_quiet (fail); try go_wp2)
                                  go_roundg k3
                                  case measure => have := HK1.out; have := HK2.out; have := HK3.out; omega
                                  case rel => exact ⟨(((rd (l0.take ((ji4) : Int).toNat) x11_3) == (rd (l1.take ((ji7) : Int).toNat) x11_3))), (wrap64 (x11_3 + 1)), (by first | rfl | (simp; done) | (simp only [← hji4, ← hji7] <;> (first | rfl | simp)) | (simp [*]; done)), (by first | rfl | (simp; done) | (simp [*]; done)), H', ⟨by have := HK1.out; have := HK2.out; have := HK3.out; omega⟩, ⟨by repeat (first | (with_reducible first | exact HB.out | apply below_alloc | apply pw_below_drewN | apply below_drew1) | exact HB.out)⟩⟩
                                · rw [if_neg c26] at H
                                  exact absurd H (by simp)
                              · replace c25 := Bool.eq_false_iff.mpr c25
                                subst c25
                                have H1 : (billetlaw01_VarintLists.l2 k3 (l0.take ((ji4) : Int).toNat) (l1.take ((ji7) : Int).toNat) t149 x6_1 x7_2 false (wrap64 (x11_3 + 1))) = some r := by rw [if_neg (show ¬ (false = true) by decide)] at H; exact H
                                clear H
                                have H := H1
                                clear H1
                                have H' := Aside0.mk H
                                clear H
                                go_wp2
                                repeat (go_quiet (fail); try go_wp2)
                                go_roundg k3
                                case measure => have := HK1.out; have := HK2.out; have := HK3.out; omega
                                case rel => exact ⟨(false), (wrap64 (x11_3 + 1)), (by first | rfl | (simp; done) | (simp [*]; done)), (by first | rfl | (simp; done) | (simp [*]; done)), H', ⟨by have := HK1.out; have := HK2.out; have := HK3.out; omega⟩, ⟨by repeat (first | (with_reducible first | exact HB.out | apply below_alloc | apply pw_below_drewN | apply below_drew1) | exact HB.out)⟩⟩
                            · rw [if_neg c24] at H
                              have c24b0 : decide (x11_3 < ((l1.take ((ji7) : Int).toNat).length : Int)) = false := decide_eq_false c24
                              (try have c24b0z : decide (x11_3 < ji7) = false := by (have hz_ := c24b0; rw [show ((l1.take ((ji7) : Int).toNat).length : Int) = ji7 by (rw [List.length_take]; omega)] at hz_; exact hz_))
                              clear c24
                              obtain ⟨ji27, hji27⟩ : ∃ j_ : Int, (mn (x6_1.size : Int) (x7_2.size : Int)) = j_ := ⟨_, rfl⟩
                              replace H : (if t149 = true then (if 0 ≤ (ji27) then (if (ji27) ≤ (x6_1.size : Int) then (if (ji27) ≤ (x7_2.size : Int) then (if (((x6_1.extract 0 ((ji27) : Int).toNat).toList == (x7_2.extract 0 ((ji27) : Int).toNat).toList) == x8_3) = true then (some (decide ((x6_1.size : Int) ≥ ((l0.take ((ji4) : Int).toNat).length : Int)))) else (some false)) else (none)) else (none)) else (none)) else (some false)) = some r := by first | (rw [hji27] at H; exact H) | (simp only [hji27] at H ⊢; exact H)
                              have hji27_ : (if (x7_2.size : Int) < (x6_1.size : Int) then (x7_2.size : Int) else (x6_1.size : Int)) = ji27 := hji27
                              (try have hji27_n : (if x7_2.size < x6_1.size then ((x7_2.size : Nat) : Int) else ((x6_1.size : Nat) : Int)) = ji27 := by (have hz_ := hji27_; simp only [Int.ofNat_lt] at hz_; exact hz_))
                              by_cases c28 : t149 = true
                              · subst c28
                                have H1 : (if 0 ≤ (ji27) then (if (ji27) ≤ (x6_1.size : Int) then (if (ji27) ≤ (x7_2.size : Int) then (if (((x6_1.extract 0 ((ji27) : Int).toNat).toList == (x7_2.extract 0 ((ji27) : Int).toNat).toList) == x8_3) = true then (some (decide ((x6_1.size : Int) ≥ ((l0.take ((ji4) : Int).toNat).length : Int)))) else (some false)) else (none)) else (none)) else (none)) = some r := by rw [if_pos rfl] at H; exact H
                                clear H
                                have H := H1
                                clear H1
                                by_cases c29 : 0 ≤ (ji27)
                                · rw [if_pos c29] at H
                                  have c29b0 := eq_true c29
                                  have c29b1 : decide (0 ≤ (ji27)) = true := decide_eq_true c29
                                  clear c29
                                  by_cases c30 : (ji27) ≤ (x6_1.size : Int)
                                  · rw [if_pos c30] at H
                                    (try have hle_ji27 := c30)
                                    (try have hmx_ji27 : max ji27 0 = ji27 := by omega)
                                    have c30b0 := eq_true c30
                                    have c30b1 : decide ((ji27) ≤ (x6_1.size : Int)) = true := decide_eq_true c30
                                    clear c30
                                    have c31b0 := eq_true (of_decide_eq_true (by first | (with_reducible assumption) | assumption) : 0 ≤ (ji27))
                                    by_cases c32 : (ji27) ≤ (x7_2.size : Int)
                                    · rw [if_pos c32] at H
                                      (try have hle_ji27 := c32)
                                      (try have hmx_ji27 : max ji27 0 = ji27 := by omega)
                                      have c32b0 := eq_true c32
                                      have c32b1 : decide ((ji27) ≤ (x7_2.size : Int)) = true := decide_eq_true c32
                                      clear c32
                                      by_cases c33 : (((x6_1.extract 0 ((ji27) : Int).toNat).toList == (x7_2.extract 0 ((ji27) : Int).toNat).toList) == x8_3) = true
                                      · rw [if_pos c33] at H
                                        have c33b0 : (((x6_1.extract 0 ((ji27) : Int).toNat).toList == (x7_2.extract 0 ((ji27) : Int).toNat).toList) == x8_3) = true := c33
                                        (try (have c33b1 : decide (((x6_1.extract 0 ((ji27) : Int).toNat).toList == (x7_2.extract 0 ((ji27) : Int).toNat).toList) = x8_3) = true := by simpa using c33))
                                        (try (have c33b2 : (((x6_1.extract 0 ((ji27) : Int).toNat).toList == (x7_2.extract 0 ((ji27) : Int).toNat).toList) == x8_3) = true := by simpa using c33))
                                        clear c33
                                        obtain rfl := Option.some.inj H
                                        go_wp2
                                        repeat (go_quiet (fail); try go_wp2)
                                        go_ret
                                        exact ⟨by first | rfl | (simp [errW_none, errW_some] <;> rfl) | (simp only [← hji4, ← hji7, ← hji27]; first | rfl | (simp [errW_none, errW_some] <;> rfl)) | (simp [*, errW_none, errW_some] <;> rfl), by repeat (first | (with_reducible first | exact HB.out | apply below_alloc | apply pw_below_drewN | apply below_drew1) | exact HB.out)⟩
                                      · rw [if_neg c33] at H
                                        have c33b0 : (((x6_1.extract 0 ((ji27) : Int).toNat).toList == (x7_2.extract 0 ((ji27) : Int).toNat).toList) == x8_3) = false := by simpa using c33
                                        (try (have c33b1 : decide (((x6_1.extract 0 ((ji27) : Int).toNat).toList == (x7_2.extract 0 ((ji27) : Int).toNat).toList) = x8_3) = false := by simpa using c33))
                                        (try (have c33b2 : (((x6_1.extract 0 ((ji27) : Int).toNat).toList == (x7_2.extract 0 ((ji27) : Int).toNat).toList) == x8_3) = false := by simpa using c33))
                                        (try (have c33b3 : ¬ (((x6_1.extract 0 ((ji27) : Int).toNat).toList == (x7_2.extract 0 ((ji27) : Int).toNat).toList) = x8_3) := by simpa using c33))
                                        clear c33
                                        obtain rfl := Option.some.inj H
                                        go_wp2
                                        repeat (go_quiet (fail); try go_wp2)
                                        go_ret
                                        exact ⟨by first | rfl | (simp [errW_none, errW_some] <;> rfl) | (simp only [← hji4, ← hji7, ← hji27]; first | rfl | (simp [errW_none, errW_some] <;> rfl)) | (simp [*, errW_none, errW_some] <;> rfl), by repeat (first | (with_reducible first | exact HB.out | apply below_alloc | apply pw_below_drewN | apply below_drew1) | exact HB.out)⟩
                                    · rw [if_neg c32] at H
                                      exact absurd H (by simp)
                                  · rw [if_neg c30] at H
                                    exact absurd H (by simp)
                                · rw [if_neg c29] at H
                                  exact absurd H (by simp)
                              · replace c28 := Bool.eq_false_iff.mpr c28
                                subst c28
                                have H1 : (some false) = some r := by rw [if_neg (show ¬ (false = true) by decide)] at H; exact H
                                clear H
                                have H := H1
                                clear H1
                                obtain rfl := Option.some.inj H
                                go_wp2
                                repeat (go_quiet (fail); try go_wp2)
                                go_ret
                                exact ⟨by first | rfl | (simp [errW_none, errW_some] <;> rfl) | (simp only [← hji4, ← hji7, ← hji27]; first | rfl | (simp [errW_none, errW_some] <;> rfl)) | (simp [*, errW_none, errW_some] <;> rfl), by repeat (first | (with_reducible first | exact HB.out | apply below_alloc | apply pw_below_drewN | apply below_drew1) | exact HB.out)⟩
                          · rw [if_neg c23] at H
                            have c23b0 : decide (x11_3 < ((l0.take ((ji4) : Int).toNat).length : Int)) = false := decide_eq_false c23
                            (try have c23b0z : decide (x11_3 < ji4) = false := by (have hz_ := c23b0; rw [show ((l0.take ((ji4) : Int).toNat).length : Int) = ji4 by (rw [List.length_take]; omega)] at hz_; exact hz_))
                            clear c23
                            obtain ⟨ji34, hji34⟩ : ∃ j_ : Int, (mn (x6_1.size : Int) (x7_2.size : Int)) = j_ := ⟨_, rfl⟩
                            replace H : (if t149 = true then (if 0 ≤ (ji34) then (if (ji34) ≤ (x6_1.size : Int) then (if (ji34) ≤ (x7_2.size : Int) then (if (((x6_1.extract 0 ((ji34) : Int).toNat).toList == (x7_2.extract 0 ((ji34) : Int).toNat).toList) == x8_3) = true then (some (decide ((x6_1.size : Int) ≥ ((l0.take ((ji4) : Int).toNat).length : Int)))) else (some false)) else (none)) else (none)) else (none)) else (some false)) = some r := by first | (rw [hji34] at H; exact H) | (simp only [hji34] at H ⊢; exact H)
                            have hji34_ : (if (x7_2.size : Int) < (x6_1.size : Int) then (x7_2.size : Int) else (x6_1.size : Int)) = ji34 := hji34
                            (try have hji34_n : (if x7_2.size < x6_1.size then ((x7_2.size : Nat) : Int) else ((x6_1.size : Nat) : Int)) = ji34 := by (have hz_ := hji34_; simp only [Int.ofNat_lt] at hz_; exact hz_))
                            by_cases c35 : t149 = true
                            · subst c35
                              have H1 : (if 0 ≤ (ji34) then (if (ji34) ≤ (x6_1.size : Int) then (if (ji34) ≤ (x7_2.size : Int) then (if (((x6_1.extract 0 ((ji34) : Int).toNat).toList == (x7_2.extract 0 ((ji34) : Int).toNat).toList) == x8_3) = true then (some (decide ((x6_1.size : Int) ≥ ((l0.take ((ji4) : Int).toNat).length : Int)))) else (some false)) else (none)) else (none)) else (none)) = some r := by rw [if_pos rfl] at H; exact H
                              clear H
                              have H := H1
                              clear H1
                              by_cases c36 : 0 ≤ (ji34)
                              · rw [if_pos c36] at H
                                have c36b0 := eq_true c36
                                have c36b1 : decide (0 ≤ (ji34)) = true := decide_eq_true c36
                                clear c36
                                by_cases c37 : (ji34) ≤ (x6_1.size : Int)
                                · rw [if_pos c37] at H
                                  (try have hle_ji34 := c37)
                                  (try have hmx_ji34 : max ji34 0 = ji34 := by omega)
                                  have c37b0 := eq_true c37
                                  have c37b1 : decide ((ji34) ≤ (x6_1.size : Int)) = true := decide_eq_true c37
                                  clear c37
                                  have c38b0 := eq_true (of_decide_eq_true (by first | (with_reducible assumption) | assumption) : 0 ≤ (ji34))
                                  by_cases c39 : (ji34) ≤ (x7_2.size : Int)
                                  · rw [if_pos c39] at H
                                    (try have hle_ji34 := c39)
                                    (try have hmx_ji34 : max ji34 0 = ji34 := by omega)
                                    have c39b0 := eq_true c39
                                    have c39b1 : decide ((ji34) ≤ (x7_2.size : Int)) = true := decide_eq_true c39
                                    clear c39
                                    by_cases c40 : (((x6_1.extract 0 ((ji34) : Int).toNat).toList == (x7_2.extract 0 ((ji34) : Int).toNat).toList) == x8_3) = true
                                    · rw [if_pos c40] at H
                                      have c40b0 : (((x6_1.extract 0 ((ji34) : Int).toNat).toList == (x7_2.extract 0 ((ji34) : Int).toNat).toList) == x8_3) = true := c40
                                      (try (have c40b1 : decide (((x6_1.extract 0 ((ji34) : Int).toNat).toList == (x7_2.extract 0 ((ji34) : Int).toNat).toList) = x8_3) = true := by simpa using c40))
                                      (try (have c40b2 : (((x6_1.extract 0 ((ji34) : Int).toNat).toList == (x7_2.extract 0 ((ji34) : Int).toNat).toList) == x8_3) = true := by simpa using c40))
                                      clear c40
                                      obtain rfl := Option.some.inj H
                                      go_wp2
                                      repeat (go_quiet (fail); try go_wp2)
                                      go_ret
                                      exact ⟨by first | rfl | (simp [errW_none, errW_some] <;> rfl) | (simp only [← hji4, ← hji7, ← hji34]; first | rfl | (simp [errW_none, errW_some] <;> rfl)) | (simp [*, errW_none, errW_some] <;> rfl), by repeat (first | (with_reducible first | exact HB.out | apply below_alloc | apply pw_below_drewN | apply below_drew1) | exact HB.out)⟩
                                    · rw [if_neg c40] at H
                                      have c40b0 : (((x6_1.extract 0 ((ji34) : Int).toNat).toList == (x7_2.extract 0 ((ji34) : Int).toNat).toList) == x8_3) = false := by simpa using c40
                                      (try (have c40b1 : decide (((x6_1.extract 0 ((ji34) : Int).toNat).toList == (x7_2.extract 0 ((ji34) : Int).toNat).toList) = x8_3) = false := by simpa using c40))
                                      (try (have c40b2 : (((x6_1.extract 0 ((ji34) : Int).toNat).toList == (x7_2.extract 0 ((ji34) : Int).toNat).toList) == x8_3) = false := by simpa using c40))
                                      (try (have c40b3 : ¬ (((x6_1.extract 0 ((ji34) : Int).toNat).toList == (x7_2.extract 0 ((ji34) : Int).toNat).toList) = x8_3) := by simpa using c40))
                                      clear c40
                                      obtain rfl := Option.some.inj H
                                      go_wp2
                                      repeat (go_quiet (fail); try go_wp2)
                                      go_ret
                                      exact ⟨by first | rfl | (simp [errW_none, errW_some] <;> rfl) | (simp only [← hji4, ← hji7, ← hji34]; first | rfl | (simp [errW_none, errW_some] <;> rfl)) | (simp [*, errW_none, errW_some] <;> rfl), by repeat (first | (with_reducible first | exact HB.out | apply below_alloc | apply pw_below_drewN | apply below_drew1) | exact HB.out)⟩
                                  · rw [if_neg c39] at H
                                    exact absurd H (by simp)
                                · rw [if_neg c37] at H
                                  exact absurd H (by simp)
                              · rw [if_neg c36] at H
                                exact absurd H (by simp)
                            · replace c35 := Bool.eq_false_iff.mpr c35
                              subst c35
                              have H1 : (some false) = some r := by rw [if_neg (show ¬ (false = true) by decide)] at H; exact H
                              clear H
                              have H := H1
                              clear H1
                              obtain rfl := Option.some.inj H
                              go_wp2
                              repeat (go_quiet (fail); try go_wp2)
                              go_ret
                              exact ⟨by first | rfl | (simp [errW_none, errW_some] <;> rfl) | (simp only [← hji4, ← hji7, ← hji34]; first | rfl | (simp [errW_none, errW_some] <;> rfl)) | (simp [*, errW_none, errW_some] <;> rfl), by repeat (first | (with_reducible first | exact HB.out | apply below_alloc | apply pw_below_drewN | apply below_drew1) | exact HB.out)⟩
        · rw [if_neg c9] at H
          exact absurd H (by simp)
      · rw [if_neg c8] at H
        exact absurd H (by simp)
    · rw [if_neg c6] at H
      exact absurd H (by simp)
  · rw [if_neg c5] at H
    exact absurd H (by simp)

/-- THE ONE PURE STATEMENT of billetlaw01_VarintLists: yours. -/
def billetlaw01_VarintLists.Pure : Prop := ∀ (l0 : List Int) (l1 : List Int), l0.length ≤ maxLen → l0.length * 8 ≤ 140737488351232 → (∀ x ∈ l0, (Lit.int .i64 x).wf = true) → l1.length ≤ maxLen → l1.length * 8 ≤ 140737488351232 → (∀ x ∈ l1, (Lit.int .i64 x).wf = true) → ∃ k, billetlaw01_VarintLists.f k l0 l1 = some true
theorem billetlaw01_VarintLists.walk (P : billetlaw01_VarintLists.Pure) (a0 : Option Addr) (len0 cap0 : Nat) (z0 : List Int) (a1 : Option Addr) (len1 cap1 : Nat) (z1 : List Int) (w : World) (w0 : (a0 = none ∧ len0 = 0 ∧ cap0 = 0 ∧ z0 = []) ∨ ∃ x, a0 = some x ∧ len0 ≤ cap0 ∧ cap0 ≤ maxLen ∧ z0.length = cap0 ∧ (∀ i, i < z0.length → w.cell? (x.add i) = some (.int .i64 (z0.getD i 0))) ∧ ∀ n ∈ z0, (Lit.int .i64 n).wf = true) (y0 : len0 * 8 ≤ 140737488351232) (w1 : (a1 = none ∧ len1 = 0 ∧ cap1 = 0 ∧ z1 = []) ∨ ∃ x, a1 = some x ∧ len1 ≤ cap1 ∧ cap1 ≤ maxLen ∧ z1.length = cap1 ∧ (∀ i, i < z1.length → w.cell? (x.add i) = some (.int .i64 (z1.getD i 0))) ∧ ∀ n ∈ z1, (Lit.int .i64 n).wf = true) (y1 : len1 * 8 ≤ 140737488351232) :
    Calls Try.prog 6 #[.slice a0 len0 cap0, .slice a1 len1 cap1] w fun e w' => e = .returned (.bool true) ∧ Below w.heap.size w w' := by
  obtain ⟨l0, rfl, hr0, hm0, hw0, hc0⟩ := ReadsInt.ofRowC w0
  obtain ⟨l1, rfl, hr1, hm1, hw1, hc1⟩ := ReadsInt.ofRowC w1
  obtain ⟨k, h⟩ := P l0 l1 hm0 y0 hw0 hm1 y1 hw1
  refine (billetlaw01_VarintLists.calls k _ _ l0 _ _ l1 true w (Kd.C_of_reads (d := (0 : Int)) (h1 := fun _ => rfl) hr0) hc0 (Kd.C_of_reads (d := (0 : Int)) (h1 := fun _ => rfl) hr1) hc1 h).mono ?_
  rintro e w' ⟨rfl, hd⟩
  exact ⟨rfl, hd⟩

end Go.Proofs.Ytbgmgigjogoemaa.Q
