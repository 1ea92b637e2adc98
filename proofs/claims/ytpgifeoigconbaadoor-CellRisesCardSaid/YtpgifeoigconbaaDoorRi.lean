/- CellRises: the walk. -/
import Derived.Test.YtpgifeoigconbaaDoorAw
namespace Go.Proofs.YtpgifeoigconbaaDoor.Cl
set_option linter.unusedVariables false
set_option linter.unusedSimpArgs false
open Go.RowKit Go.Proofs.YtpgifeoigconbaaDoorW.PrintWords Go.Proofs.YtpgifeoigconbaaDoorW.PrintLast Go.Proofs.YtpgifeoigconbaaDoor.Mo Go.Proofs.YtpgifeoigconbaaDoor.Q Go.Proofs.YtpgifeoigconbaaDoor.Rt
attribute [local go_sem] max2_int min2_int max_two min_two max_three min_three max_four min_four
set_option maxHeartbeats 8000000 in
set_option maxRecDepth 100000 in
theorem rises (A : Option Addr) (c : Nat) (l : List S42) (w : World) (hr : Kd.C k42 w A l.length l) (hc : l.length ≤ c) (hV : ∀ x ∈ l, ∀ y ∈ x.f6, I64 y) :
    Calls Tryd.prog 4 #[.slice A l.length c] w fun e w' => e = .returned (.bool true) ∧ Below w.heap.size w w' := by
  go_enter Tryd.func4, Tryd.ntmps4
  go_wp2_with fail
  refine (awake_any w w (Below.refl _ _)).mono ?_; rintro ee w1 ⟨rfl, HB1⟩
  go_wp2_with fail
  refine (made_any 0 1 w w1 HB1).mono ?_; rintro ee w2 ⟨g, rfl, HC, HB, -, -⟩
  replace HC := Aside0.mk HC
  replace HB := Aside0.mk HB
  clear HB1
  go_wp2_with fail
  go_loopg [5] 80 (fun kq v5 w' => ∃ (i : Nat) (e v u : Int) (bs : List S35), v5 = .int .i64 (i : Int) ∧ i + kq = 80 ∧ bs.length ≤ 1000 ∧ Aside0 (Cs w w' g 0 1 e v u bs) ∧ Aside0 (Below w.heap.size w w'))
  case atStart => exact ⟨0, 0, 0, 0, [], rfl, rfl, by decide, HC, HB⟩
  case round =>
    clear HC HB
    obtain ⟨i, e, v, u, bs, rfl, hik, hbl, HC, HB⟩ := hrel
    by_cases h1 : i < l.length ∧ i < 80
    · obtain ⟨m, rfl⟩ : ∃ m, gk = m + 1 := ⟨gk - 1, by omega⟩
      have d1 : decide ((i : Int) < (l.length : Int)) = true := by simp; exact h1.1
      have d2 : decide ((i : Int) < 80) = true := by simp; omega
      have p1 : 0 ≤ (i : Int) := by omega
      have q1 : (i : Int) < (l.length : Int) := by omega
      have e1 : (i : Int).toNat = i := Int.toNat_natCast i
      obtain ⟨ad, FB, fc, rfl, hx0, hx1, hx2, hx3, hx4, hx5, hx6, hfc, hFC⟩ := at42 hr i h1.1
      replace p1 := eq_true p1
      replace q1 := eq_true q1
      go_wp2_with fail
      refine (rep_any g 0 1 e v u bs w wr HC.out (by omega)).mono ?_; rintro ee w3 ⟨R1, rfl, hR1, hb3⟩
      have hs3 := HB.out.size
      have hR3 : Row w w3 R1 bs := Made.row hR1 hs3
      have HC3 := HC.out.below hb3
      have HB3 := HB.out.trans (hb3.mono hs3)
      have HA := below_alloc (Below.refl w3.heap.size w3) (.cells #[.int .i64 2, .int .i64 0, .int .i64 1, .int .i64 e, .int .i64 v, .int .i64 u, .slice R1 bs.length bs.length] 31)
      have hO := blk_new w3 (.cells #[.int .i64 2, .int .i64 0, .int .i64 1, .int .i64 e, .int .i64 v, .int .i64 u, .slice R1 bs.length bs.length] 31)
      have HCa := HC3.below HA
      have HBa := HB3.trans (HA.mono HB3.size)
      have hRa := hR3.below HA
      replace hx0 := cell_up HBa hx0
      replace hx1 := cell_up HBa hx1
      replace hx2 := cell_up HBa hx2
      replace hx3 := cell_up HBa hx3
      replace hx4 := cell_up HBa hx4
      replace hx5 := cell_up HBa hx5
      replace hx6 := cell_up HBa hx6
      replace hFC := Kd.C_below hFC HBa
      have hI := hV _ (rd42_mem h1.1)
      clear HA HC3 HB3 hR3 hR1 hb3 HC HB
      generalize rd42 l i = X at *
      go_wp2_with fail
      revert hO HCa HBa hRa hx0 hx1 hx2 hx3 hx4 hx5 hx6 hFC
      generalize hox : w3.heap.size = o1
      generalize w3.alloc (.cells #[.int .i64 2, .int .i64 0, .int .i64 1, .int .i64 e, .int .i64 v, .int .i64 u, .slice R1 bs.length bs.length] 31) = wa
      intro hO HCa HBa hRa hx0 hx1 hx2 hx3 hx4 hx5 hx6 hFC
      clear hx0 hx1 hx2 hx3 hx4 hx5 hx6
      refine (fit_any X.f0 X.f1 X.f2 X.f3 X.f4 X.f5 FB fc X.f6 wa hFC hfc hI).mono ?_; rintro ee w5 ⟨MB, md, rfl, hM, hb5⟩
      have hfl := fbS_len X.f6
      generalize hmb : fbS X.f6 = mbs at *
      clear hmb hFC hI
      generalize kdS X.f0 = mk
      generalize clS X.f1 = mc
      generalize pk X.f2 3 = mb
      generalize pk X.f3 5 = me
      generalize pk X.f4 7 = mv
      generalize pk X.f5 60 = mu
      have HC5 := HCa.below hb5
      have HB5 := HBa.trans (hb5.mono HBa.size)
      have hR5 := hRa.below hb5
      have hO5 := blk_below hO hb5
      obtain ⟨_, hmd, hMC⟩ := Kd.R_reads' hM
      clear hO HCa HBa hRa hM hb5 hox
      have hog := HC5.ne hO5 (by decide)
      go_wp2_with fail
      cases hT : takesS 0 1 e v mk mc mb me mv mu mbs with
      | true =>
        obtain ⟨-, -, -, hrise⟩ := takes_in hT
        refine (recv_yes g 0 1 e v u bs mk mc mb me mv mu MB md mbs w w5 HC5 HB5 hMC hmd (by omega) hT).mono ?_; rintro ee w6 ⟨rfl, HC6, HB6, hk6⟩
        have hO6 := keep_blk hk6 hO5 hog
        have hl6 : (if mv = 0 then bs else mbs).length ≤ 1000 := by split <;> omega
        generalize (if mv = 0 then bs else mbs) = bs6 at *
        generalize (if mv = 0 then u else mu) = u6 at *
        clear hO5 HC5 HB5 hR5 hMC hmd hk6 hT hog
        go_wp2_with fail
        refine (rep_any g 0 1 me mv u6 bs6 w w6 HC6 (by omega)).mono ?_; rintro ee w7 ⟨R7, rfl, hR7, hb7⟩
        have HC7 := HC6.below hb7
        have HB7 := HB6.trans (hb7.mono HB6.size)
        have hO7 := blk_below hO6 hb7
        have hlt7 := blk_lt hO7
        have x3 := (blk_cell hO7 3).trans rfl
        have x4 := (blk_cell hO7 4).trans rfl
        have hrr : e < me ∨ e = me ∧ v < mv := by omega
        clear hrise hO6 HC6 HB6 hb7
        rcases hrr with hlt | ⟨rfl, hlt⟩
        · have d3 : decide (e < me) = true := decide_eq_true hlt
          clear hlt
          go_wp2_with fail
          go_roundg m
          case measure => omega
          case rel => exact ⟨i + 1, me, mv, u6, bs6, by rw [Int.natCast_add]; rfl, by omega, hl6, Aside0.mk (HC7.below (below_alloc (Below.refl _ _) _)), Aside0.mk (below_alloc HB7 _)⟩
        · have d3 : decide (v < mv) = true := decide_eq_true hlt
          clear hlt
          go_wp2_with fail
          go_roundg m
          case measure => omega
          case rel => exact ⟨i + 1, e, mv, u6, bs6, by rw [Int.natCast_add]; rfl, by omega, hl6, Aside0.mk (HC7.below (below_alloc (Below.refl _ _) _)), Aside0.mk (below_alloc HB7 _)⟩
      | false =>
        refine (recv_no g 0 1 e v u bs mk mc mb me mv mu MB md mbs w w5 HC5 HB5 hMC hmd (by omega) hT).mono ?_; rintro ee w6 ⟨rfl, HC6, HB6, hk6⟩
        have hO6 := keep_blk hk6 hO5 hog
        have hR6 : Row w w6 R1 bs := HC5.keepRow hR5 hk6
        clear hO5 HC5 HB5 hR5 hMC hmd hk6 hT hog
        go_wp2_with fail
        refine (rep_any g 0 1 e v u bs w w6 HC6 (by omega)).mono ?_; rintro ee w7 ⟨R7, rfl, hR7, hb7⟩
        have HC7 := HC6.below hb7
        have hs6 := HB6.size
        have HB7 := HB6.trans (hb7.mono hs6)
        have hO7 := blk_below hO6 hb7
        have hR1 := hR6.below hb7
        have hR77 : Row w w7 R7 bs := Made.row hR7 hs6
        have hlt7 := blk_lt hO7
        have x0 := (blk_cell hO7 0).trans rfl
        have x1 := (blk_cell hO7 1).trans rfl
        have x2 := (blk_cell hO7 2).trans rfl
        have x3 := (blk_cell hO7 3).trans rfl
        have x4 := (blk_cell hO7 4).trans rfl
        have x5 := (blk_cell hO7 5).trans rfl
        have x6 := (blk_cell hO7 6).trans rfl
        clear hO6 HC6 HB6 hb7 hR6 hR7
        go_wp2_with fail
        refine (msame_any 2 0 1 e v u R1 R7 bs.length bs.length bs _ (hR1.below (below_alloc (Below.refl _ _) _)).C (Nat.le_refl _) (hR77.below (below_alloc (Below.refl _ _) _)).C (Nat.le_refl _) (by omega)).mono ?_; rintro ee w8 ⟨rfl, hb8⟩
        have HC8 := (HC7.below (below_alloc (Below.refl _ _) (.cells #[.int .i64 2, .int .i64 0, .int .i64 1, .int .i64 e, .int .i64 v, .int .i64 u, .slice R7 bs.length bs.length] 31))).below hb8
        have HB8 := (below_alloc HB7 (.cells #[.int .i64 2, .int .i64 0, .int .i64 1, .int .i64 e, .int .i64 v, .int .i64 u, .slice R7 bs.length bs.length] 31)).trans (hb8.mono (by have := HB7.size; simp; omega))
        have hN := blk_below (blk_new w7 (.cells #[.int .i64 2, .int .i64 0, .int .i64 1, .int .i64 e, .int .i64 v, .int .i64 u, .slice R7 bs.length bs.length] 31)) hb8
        have n0 := (blk_cell hN 0).trans rfl
        have n1 := (blk_cell hN 1).trans rfl
        have n2 := (blk_cell hN 2).trans rfl
        clear x0 x1 x2 x3 x4 x5 x6 hR1 hR77 hb8 hO7 hN HC7 HB7
        go_wp2_with fail
        go_roundg m
        case measure => omega
        case rel => exact ⟨i + 1, e, v, u, bs, by rw [Int.natCast_add]; rfl, by omega, hbl, Aside0.mk HC8, Aside0.mk HB8⟩
    · by_cases h2 : i < l.length
      · have d1 : decide ((i : Int) < (l.length : Int)) = true := by simp; exact h2
        have d2 : decide ((i : Int) < 80) = false := by simp; omega
        go_wp2_with fail
        go_ret
        exact ⟨rfl, HB.out⟩
      · have d1 : decide ((i : Int) < (l.length : Int)) = false := by simp; omega
        go_wp2_with fail
        go_ret
        exact ⟨rfl, HB.out⟩
theorem rises_row (A : Option Addr) (c : Nat) (l : List S42) (w : World) (hr : Kd.C k42 w A l.length l) (hc : l.length ≤ c) {p q : Prop} {a0 a1 a2 a3 a4 a5 a6 a7 : S42 → Prop} (hV : p ∧ q ∧ ∀ x ∈ l, a0 x ∧ a1 x ∧ a2 x ∧ a3 x ∧ a4 x ∧ a5 x ∧ a6 x ∧ a7 x ∧ ∀ y ∈ x.f6, (Lit.int .i64 y).wf = true) :
    Calls Tryd.prog 4 #[.slice A l.length c] w fun e w' => e = .returned (.bool true) ∧ Below w.heap.size w w' :=
  rises A c l w hr hc (fun x hx y hy => wf_i64 ((hV.2.2 x hx).2.2.2.2.2.2.2.2 y hy))
end Go.Proofs.YtpgifeoigconbaaDoor.Cl
