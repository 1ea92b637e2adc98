/- CellTwice: the walk. -/
import Derived.Test.YtpgifeoigconbaaDoorAw
namespace Go.Proofs.YtpgifeoigconbaaDoor.Cl
set_option linter.unusedVariables false
set_option linter.unusedSimpArgs false
open Go.RowKit Go.Proofs.YtpgifeoigconbaaDoorW.PrintWords Go.Proofs.YtpgifeoigconbaaDoorW.PrintLast Go.Proofs.YtpgifeoigconbaaDoor.Mo Go.Proofs.YtpgifeoigconbaaDoor.Q Go.Proofs.YtpgifeoigconbaaDoor.Rt
attribute [local go_sem] max2_int min2_int max_two min_two max_three min_three max_four min_four
/-- what a raw grant is refused by -/
def refX (e v : Int) (x : S42) : Bool := takesS 0 1 e v (kdS x.f0) (clS x.f1) (pk x.f2 3) (pk x.f3 5) (pk x.f4 7) (pk x.f5 60) (fbS x.f6)
/-- both cells stand alike; the first i messages are refused ever after -/
def Alike (l : List S42) (w0 W : World) (ga gb : Nat) (i : Nat) (e v u : Int) (bs : List S35) : Prop :=
  Cs w0 W ga 0 1 e v u bs ∧ Cs w0 W gb 0 1 e v u bs ∧ Below w0.heap.size w0 W ∧ ga ≠ gb ∧ bs.length ≤ 1000 ∧ ∀ j, j < i → j < l.length → refX e v (rd42 l j) = false
set_option maxHeartbeats 8000000 in
set_option maxRecDepth 100000 in
theorem twice (A : Option Addr) (c : Nat) (l : List S42) (w : World) (hr : Kd.C k42 w A l.length l) (hc : l.length ≤ c) (hV : ∀ x ∈ l, ∀ y ∈ x.f6, I64 y) :
    Calls Tryd.prog 7 #[.slice A l.length c] w fun e w' => e = .returned (.bool true) ∧ Below w.heap.size w w' := by
  go_enter Tryd.func7, Tryd.ntmps7
  go_wp2_with fail
  refine (awake_any w w (Below.refl _ _)).mono ?_; rintro ee w1 ⟨rfl, HB1⟩
  go_wp2_with fail
  refine (made_any 0 1 w w1 HB1).mono ?_; rintro ee w2 ⟨ga, rfl, HC2, HB2, -, -⟩
  go_wp2_with fail
  refine (made_any 0 1 w w2 HB2).mono ?_; rintro ee w3 ⟨gb, rfl, HD3, HB3, hb3, hge⟩
  have HC3 := HC2.below hb3
  have hne : ga ≠ gb := by have := HC2.lt; omega
  have HI := Aside0.mk (show Alike l w w3 ga gb 0 0 0 0 [] from ⟨HC3, HD3, HB3, hne, by decide, fun j h => absurd h (Nat.not_lt_zero _)⟩)
  clear HB1 HC2 HB2 HD3 HC3 hb3 hge HB3 hne
  go_wp2_with fail
  go_loopg [6] 40 (fun kq v6 w' => ∃ (i : Nat) (e v u : Int) (bs : List S35), v6 = .int .i64 (i : Int) ∧ i + kq = 40 ∧ Aside0 (Alike l w w' ga gb i e v u bs))
  case atStart => exact ⟨0, 0, 0, 0, [], rfl, rfl, HI⟩
  case round =>
    clear HI
    obtain ⟨i, e, v, u, bs, rfl, hik, HI⟩ := hrel
    by_cases h1 : i < l.length ∧ i < 40
    · obtain ⟨m, rfl⟩ : ∃ m, gk = m + 1 := ⟨gk - 1, by omega⟩
      have d1 : decide ((i : Int) < (l.length : Int)) = true := by simp; exact h1.1
      have d2 : decide ((i : Int) < 40) = true := by simp; omega
      have p1 : 0 ≤ (i : Int) := by omega
      have q1 : (i : Int) < (l.length : Int) := by omega
      have e1 : (i : Int).toNat = i := Int.toNat_natCast i
      obtain ⟨ad, FB, fc, rfl, hx0, hx1, hx2, hx3, hx4, hx5, hx6, hfc, hFC⟩ := at42 hr i h1.1
      obtain ⟨HC, HD, HB, hne, hbl, hold⟩ := HI.out
      replace hold := Aside0.mk hold
      replace hne := Aside0.mk hne
      clear HI
      replace p1 := eq_true p1
      replace q1 := eq_true q1
      replace hx0 := cell_up HB hx0
      replace hx1 := cell_up HB hx1
      replace hx2 := cell_up HB hx2
      replace hx3 := cell_up HB hx3
      replace hx4 := cell_up HB hx4
      replace hx5 := cell_up HB hx5
      replace hx6 := cell_up HB hx6
      replace hFC := Kd.C_below hFC HB
      have hI := hV _ (rd42_mem h1.1)
      generalize hX : rd42 l i = X at *
      replace hX := Aside0.mk hX
      go_wp2_with fail
      clear hx0 hx1 hx2 hx3 hx4 hx5 hx6
      refine (fit_any X.f0 X.f1 X.f2 X.f3 X.f4 X.f5 FB fc X.f6 wr hFC hfc hI).mono ?_; rintro ee w5 ⟨MB, md, rfl, hM, hb5⟩
      have hfl := fbS_len X.f6
      have hTT : ∀ e v, refX e v X = takesS 0 1 e v (kdS X.f0) (clS X.f1) (pk X.f2 3) (pk X.f3 5) (pk X.f4 7) (pk X.f5 60) (fbS X.f6) := fun _ _ => rfl
      replace hTT := Aside0.mk hTT
      revert hTT
      generalize hmb : fbS X.f6 = mbs at *
      clear hmb hFC hI
      generalize kdS X.f0 = mk
      generalize clS X.f1 = mc
      generalize pk X.f2 3 = mb
      generalize pk X.f3 5 = me
      generalize pk X.f4 7 = mv
      generalize pk X.f5 60 = mu
      intro hTT
      have hwr := HB.size
      have HC5 := HC.below hb5
      have HD5 := HD.below hb5
      have HB5 := HB.trans (hb5.mono hwr)
      have hmd := (Kd.R_reads' hM).2.1
      have hM5 : Row w w5 MB mbs := ⟨md, Kd.R_lower hM hwr⟩
      have HA := below_alloc (Below.refl w5.heap.size w5) (.cells #[.int .i64 mk, .int .i64 mc, .int .i64 mb, .int .i64 me, .int .i64 mv, .int .i64 mu, .slice MB mbs.length md] 31)
      have hO := blk_new w5 (.cells #[.int .i64 mk, .int .i64 mc, .int .i64 mb, .int .i64 me, .int .i64 mv, .int .i64 mu, .slice MB mbs.length md] 31)
      replace HC5 := HC5.below HA
      replace HD5 := HD5.below HA
      replace hM5 := hM5.below HA
      replace HB5 := HB5.trans (HA.mono HB5.size)
      clear HA HC HD HB hM hb5 hwr
      go_wp2_with fail
      revert hO HC5 HD5 hM5 HB5
      generalize hox : w5.heap.size = o1
      generalize w5.alloc (.cells #[.int .i64 mk, .int .i64 mc, .int .i64 mb, .int .i64 me, .int .i64 mv, .int .i64 mu, .slice MB mbs.length md] 31) = wa
      intro hO HC5 HD5 hM5 HB5
      have hoa := HC5.ne hO (by decide)
      have hob := HD5.ne hO (by decide)
      clear hox
      generalize hT : takesS 0 1 e v mk mc mb me mv mu mbs = T
      refine (recv_T ga 0 1 e v u bs mk mc mb me mv mu MB md mbs w wa T HC5 HB5 hM5.C hmd (by omega) hT).mono ?_; rintro ee w6 ⟨rfl, HC6, HB6, hk6⟩
      have HD6 := HC5.other HD5 (fun e => hne.out e.symm) hk6
      have hM6 := HC5.keepRow hM5 hk6
      have hO6 := keep_blk hk6 hO hoa
      clear hO HC5 HD5 hM5 HB5 hk6
      have x0 := (blk_cell hO6 0).trans rfl
      have x1 := (blk_cell hO6 1).trans rfl
      have x2 := (blk_cell hO6 2).trans rfl
      have x3 := (blk_cell hO6 3).trans rfl
      have x4 := (blk_cell hO6 4).trans rfl
      have x5 := (blk_cell hO6 5).trans rfl
      have x6 := (blk_cell hO6 6).trans rfl
      go_wp2_with fail
      clear x0 x1 x2 x3 x4 x5 x6
      refine (recv_T gb 0 1 e v u bs mk mc mb me mv mu MB md mbs w w6 T HD6 HB6 hM6.C hmd (by omega) hT).mono ?_; rintro ee w7 ⟨rfl, HD7, HB7, hk7⟩
      have HC7 := HD6.other HC6 hne.out hk7
      have hM7 := HD6.keepRow hM6 hk7
      have hO7 := keep_blk hk7 hO6 hob
      have hno := refused_now hT
      have hle := later hT
      have hl7 : (if (T && !decide (mv = 0)) = true then mbs else bs).length ≤ 1000 := by split <;> omega
      have hold7 : ∀ j, j < i + 1 → j < l.length → refX (if T = true then me else e) (if T = true then mv else v) (rd42 l j) = false := fun j hj hjl => by
        rcases Nat.lt_succ_iff_lt_or_eq.1 hj with hj | rfl
        · exact refused_mono (hold.out j hj hjl) hle
        · rw [hX.out, hTT.out]; exact hno
      replace hold7 := Aside0.mk hold7
      clear HC6 HD6 hM6 hO6 HB6 hk7 hT hle hold hTT hX
      revert hold7 HC7 HD7 hno hl7
      generalize (if (T && !decide (mv = 0)) = true then mbs else bs) = bs7
      generalize (if (T && !decide (mv = 0)) = true then mu else u) = u7
      generalize (if T = true then me else e) = e7
      generalize (if T = true then mv else v) = v7
      intro HD7 HC7 hno hl7 hold7
      have x0 := (blk_cell hO7 0).trans rfl
      have x1 := (blk_cell hO7 1).trans rfl
      have x2 := (blk_cell hO7 2).trans rfl
      have x3 := (blk_cell hO7 3).trans rfl
      have x4 := (blk_cell hO7 4).trans rfl
      have x5 := (blk_cell hO7 5).trans rfl
      have x6 := (blk_cell hO7 6).trans rfl
      go_wp2_with fail
      clear x0 x1 x2 x3 x4 x5 x6
      refine (recv_no gb 0 1 e7 v7 u7 bs7 mk mc mb me mv mu MB md mbs w w7 HD7 HB7 hM7.C hmd (by omega) hno).mono ?_; rintro ee w8 ⟨rfl, HD8, HB8, hk8⟩
      have HC8 := HD7.other HC7 hne.out hk8
      clear HC7 HD7 hM7 hO7 HB7 hk8
      go_wp2_with fail
      refine (rep_any ga 0 1 e7 v7 u7 bs7 w w8 HC8 (by omega)).mono ?_; rintro ee w9 ⟨R9, rfl, hR9, hb9⟩
      have hs8 := HB8.size
      have HC9 := HC8.below hb9
      have HD9 := HD8.below hb9
      have HB9 := HB8.trans (hb9.mono hs8)
      have hR9' : Row w w9 R9 bs7 := Made.row hR9 hs8
      clear HC8 HD8 HB8 hb9 hR9
      go_wp2_with fail
      refine (rep_any gb 0 1 e7 v7 u7 bs7 w w9 HD9 (by omega)).mono ?_; rintro ee w10 ⟨R10, rfl, hR10, hb10⟩
      have hs9 := HB9.size
      have HC10 := HC9.below hb10
      have HD10 := HD9.below hb10
      have HB10 := HB9.trans (hb10.mono hs9)
      have hR10' : Row w w10 R10 bs7 := Made.row hR10 hs9
      have hR9'' := hR9'.below hb10
      clear HC9 HD9 HB9 hb10 hR10 hR9'
      go_wp2_with fail
      refine (msame_any 2 0 1 e7 v7 u7 R9 R10 bs7.length bs7.length bs7 w10 hR9''.C (Nat.le_refl _) hR10'.C (Nat.le_refl _) (by omega)).mono ?_; rintro ee w11 ⟨rfl, hb11⟩
      have HC11 := HC10.below hb11
      have HD11 := HD10.below hb11
      have HB11 := HB10.trans (hb11.mono HB10.size)
      clear HC10 HD10 HB10 hb11 hR10' hR9''
      go_wp2_with fail
      go_roundg m
      case measure => omega
      case rel => exact ⟨i + 1, e7, v7, u7, bs7, by rw [Int.natCast_add]; rfl, by omega, Aside0.mk ⟨HC11, HD11, HB11, hne.out, hl7, hold7.out⟩⟩
    · have tl : (∀ j, j < l.length → j < 40 → refX e v (rd42 l j) = false) := fun j h2 h3 => HI.out.2.2.2.2.2 j (by omega) h2
      replace tl := Aside0.mk tl
      by_cases h2 : i < l.length
      · have d1 : decide ((i : Int) < (l.length : Int)) = true := by simp; exact h2
        have d2 : decide ((i : Int) < 40) = false := by simp; omega
        go_wp2_with fail
        clear d1 d2
        go_loopg [8] 40 (fun kq v8 w' => ∃ (j : Nat), v8 = .int .i64 (j : Int) ∧ j + kq = 40 ∧ Aside0 (Alike l w w' ga gb i e v u bs))
        case atStart => exact ⟨0, rfl, rfl, HI⟩
        case round =>
          clear HI
          obtain ⟨j, rfl, hjk, HI⟩ := hrel
          by_cases h3 : j < l.length ∧ j < 40
          · obtain ⟨m, rfl⟩ : ∃ m, gk = m + 1 := ⟨gk - 1, by omega⟩
            have d3 : decide ((j : Int) < (l.length : Int)) = true := by simp; exact h3.1
            have d4 : decide ((j : Int) < 40) = true := by simp; omega
            have p1 : 0 ≤ (j : Int) := by omega
            have q1 : (j : Int) < (l.length : Int) := by omega
            have e1 : (j : Int).toNat = j := Int.toNat_natCast j
            obtain ⟨ad, FB, fc, rfl, hx0, hx1, hx2, hx3, hx4, hx5, hx6, hfc, hFC⟩ := at42 hr j h3.1
            obtain ⟨HC, HD, HB, hne, hbl, hold⟩ := HI.out
            replace hold := Aside0.mk hold
            replace hne := Aside0.mk hne
            clear HI
            replace p1 := eq_true p1
            replace q1 := eq_true q1
            replace hx0 := cell_up HB hx0
            replace hx1 := cell_up HB hx1
            replace hx2 := cell_up HB hx2
            replace hx3 := cell_up HB hx3
            replace hx4 := cell_up HB hx4
            replace hx5 := cell_up HB hx5
            replace hx6 := cell_up HB hx6
            replace hFC := Kd.C_below hFC HB
            have hI := hV _ (rd42_mem h3.1)
            have hno := tl.out j h3.1 h3.2
            generalize rd42 l j = X at *
            replace hno : takesS 0 1 e v (kdS X.f0) (clS X.f1) (pk X.f2 3) (pk X.f3 5) (pk X.f4 7) (pk X.f5 60) (fbS X.f6) = false := hno
            go_wp2_with fail
            clear hx0 hx1 hx2 hx3 hx4 hx5 hx6
            refine (fit_any X.f0 X.f1 X.f2 X.f3 X.f4 X.f5 FB fc X.f6 wr hFC hfc hI).mono ?_; rintro ee w5 ⟨MB, md, rfl, hM, hb5⟩
            have hfl := fbS_len X.f6
            revert hno
            generalize hmb : fbS X.f6 = mbs at *
            clear hmb hFC hI
            generalize kdS X.f0 = mk
            generalize clS X.f1 = mc
            generalize pk X.f2 3 = mb
            generalize pk X.f3 5 = me
            generalize pk X.f4 7 = mv
            generalize pk X.f5 60 = mu
            intro hno
            have HC5 := HC.below hb5
            have HD5 := HD.below hb5
            have HB5 := HB.trans (hb5.mono HB.size)
            obtain ⟨_, hmd, hMC⟩ := Kd.R_reads' hM
            clear HC HD HB hM hb5
            go_wp2_with fail
            refine (recv_no gb 0 1 e v u bs mk mc mb me mv mu MB md mbs w w5 HD5 HB5 hMC hmd (by omega) hno).mono ?_; rintro ee w6 ⟨rfl, HD6, HB6, hk6⟩
            have HC6 := HD5.other HC5 hne.out hk6
            clear HC5 HD5 HB5 hMC hno hk6
            go_wp2_with fail
            go_roundg m
            case measure => omega
            case rel => exact ⟨j + 1, by rw [Int.natCast_add]; rfl, by omega, Aside0.mk ⟨HC6, HD6, HB6, hne.out, hbl, hold.out⟩⟩
          · obtain ⟨HC, HD, HB, hne, hbl, hold⟩ := HI.out
            clear HI hold hne
            by_cases h4 : j < l.length
            · have d3 : decide ((j : Int) < (l.length : Int)) = true := by simp; exact h4
              have d4 : decide ((j : Int) < 40) = false := by simp; omega
              go_wp2_with fail
              refine (rep_any ga 0 1 e v u bs w wr HC (by omega)).mono ?_; rintro ee w9 ⟨R9, rfl, hR9, hb9⟩
              have hs8 := HB.size
              have HD9 := HD.below hb9
              have HB9 := HB.trans (hb9.mono hs8)
              have hR9' : Row w w9 R9 bs := Made.row hR9 hs8
              clear HC HD HB hb9 hR9
              go_wp2_with fail
              refine (rep_any gb 0 1 e v u bs w w9 HD9 (by omega)).mono ?_; rintro ee w10 ⟨R10, rfl, hR10, hb10⟩
              have hs9 := HB9.size
              have HB10 := HB9.trans (hb10.mono hs9)
              have hR10' : Row w w10 R10 bs := Made.row hR10 hs9
              have hR9'' := hR9'.below hb10
              clear HD9 HB9 hb10 hR10 hR9'
              go_wp2_with fail
              refine (msame_any 2 0 1 e v u R9 R10 bs.length bs.length bs w10 hR9''.C (Nat.le_refl _) hR10'.C (Nat.le_refl _) (by omega)).mono ?_; rintro ee w11 ⟨rfl, hb11⟩
              have HB11 := HB10.trans (hb11.mono HB10.size)
              clear HB10 hb11 hR10' hR9''
              go_wp2_with fail
              go_ret
              exact ⟨rfl, HB11⟩
            · have d3 : decide ((j : Int) < (l.length : Int)) = false := by simp; omega
              go_wp2_with fail
              refine (rep_any ga 0 1 e v u bs w wr HC (by omega)).mono ?_; rintro ee w9 ⟨R9, rfl, hR9, hb9⟩
              have hs8 := HB.size
              have HD9 := HD.below hb9
              have HB9 := HB.trans (hb9.mono hs8)
              have hR9' : Row w w9 R9 bs := Made.row hR9 hs8
              clear HC HD HB hb9 hR9
              go_wp2_with fail
              refine (rep_any gb 0 1 e v u bs w w9 HD9 (by omega)).mono ?_; rintro ee w10 ⟨R10, rfl, hR10, hb10⟩
              have hs9 := HB9.size
              have HB10 := HB9.trans (hb10.mono hs9)
              have hR10' : Row w w10 R10 bs := Made.row hR10 hs9
              have hR9'' := hR9'.below hb10
              clear HD9 HB9 hb10 hR10 hR9'
              go_wp2_with fail
              refine (msame_any 2 0 1 e v u R9 R10 bs.length bs.length bs w10 hR9''.C (Nat.le_refl _) hR10'.C (Nat.le_refl _) (by omega)).mono ?_; rintro ee w11 ⟨rfl, hb11⟩
              have HB11 := HB10.trans (hb11.mono HB10.size)
              clear HB10 hb11 hR10' hR9''
              go_wp2_with fail
              go_ret
              exact ⟨rfl, HB11⟩
      · have d1 : decide ((i : Int) < (l.length : Int)) = false := by simp; omega
        go_wp2_with fail
        clear d1
        go_loopg [8] 40 (fun kq v8 w' => ∃ (j : Nat), v8 = .int .i64 (j : Int) ∧ j + kq = 40 ∧ Aside0 (Alike l w w' ga gb i e v u bs))
        case atStart => exact ⟨0, rfl, rfl, HI⟩
        case round =>
          clear HI
          obtain ⟨j, rfl, hjk, HI⟩ := hrel
          by_cases h3 : j < l.length ∧ j < 40
          · obtain ⟨m, rfl⟩ : ∃ m, gk = m + 1 := ⟨gk - 1, by omega⟩
            have d3 : decide ((j : Int) < (l.length : Int)) = true := by simp; exact h3.1
            have d4 : decide ((j : Int) < 40) = true := by simp; omega
            have p1 : 0 ≤ (j : Int) := by omega
            have q1 : (j : Int) < (l.length : Int) := by omega
            have e1 : (j : Int).toNat = j := Int.toNat_natCast j
            obtain ⟨ad, FB, fc, rfl, hx0, hx1, hx2, hx3, hx4, hx5, hx6, hfc, hFC⟩ := at42 hr j h3.1
            obtain ⟨HC, HD, HB, hne, hbl, hold⟩ := HI.out
            replace hold := Aside0.mk hold
            replace hne := Aside0.mk hne
            clear HI
            replace p1 := eq_true p1
            replace q1 := eq_true q1
            replace hx0 := cell_up HB hx0
            replace hx1 := cell_up HB hx1
            replace hx2 := cell_up HB hx2
            replace hx3 := cell_up HB hx3
            replace hx4 := cell_up HB hx4
            replace hx5 := cell_up HB hx5
            replace hx6 := cell_up HB hx6
            replace hFC := Kd.C_below hFC HB
            have hI := hV _ (rd42_mem h3.1)
            have hno := tl.out j h3.1 h3.2
            generalize rd42 l j = X at *
            replace hno : takesS 0 1 e v (kdS X.f0) (clS X.f1) (pk X.f2 3) (pk X.f3 5) (pk X.f4 7) (pk X.f5 60) (fbS X.f6) = false := hno
            go_wp2_with fail
            clear hx0 hx1 hx2 hx3 hx4 hx5 hx6
            refine (fit_any X.f0 X.f1 X.f2 X.f3 X.f4 X.f5 FB fc X.f6 wr hFC hfc hI).mono ?_; rintro ee w5 ⟨MB, md, rfl, hM, hb5⟩
            have hfl := fbS_len X.f6
            revert hno
            generalize hmb : fbS X.f6 = mbs at *
            clear hmb hFC hI
            generalize kdS X.f0 = mk
            generalize clS X.f1 = mc
            generalize pk X.f2 3 = mb
            generalize pk X.f3 5 = me
            generalize pk X.f4 7 = mv
            generalize pk X.f5 60 = mu
            intro hno
            have HC5 := HC.below hb5
            have HD5 := HD.below hb5
            have HB5 := HB.trans (hb5.mono HB.size)
            obtain ⟨_, hmd, hMC⟩ := Kd.R_reads' hM
            clear HC HD HB hM hb5
            go_wp2_with fail
            refine (recv_no gb 0 1 e v u bs mk mc mb me mv mu MB md mbs w w5 HD5 HB5 hMC hmd (by omega) hno).mono ?_; rintro ee w6 ⟨rfl, HD6, HB6, hk6⟩
            have HC6 := HD5.other HC5 hne.out hk6
            clear HC5 HD5 HB5 hMC hno hk6
            go_wp2_with fail
            go_roundg m
            case measure => omega
            case rel => exact ⟨j + 1, by rw [Int.natCast_add]; rfl, by omega, Aside0.mk ⟨HC6, HD6, HB6, hne.out, hbl, hold.out⟩⟩
          · obtain ⟨HC, HD, HB, hne, hbl, hold⟩ := HI.out
            clear HI hold hne
            by_cases h4 : j < l.length
            · have d3 : decide ((j : Int) < (l.length : Int)) = true := by simp; exact h4
              have d4 : decide ((j : Int) < 40) = false := by simp; omega
              go_wp2_with fail
              refine (rep_any ga 0 1 e v u bs w wr HC (by omega)).mono ?_; rintro ee w9 ⟨R9, rfl, hR9, hb9⟩
              have hs8 := HB.size
              have HD9 := HD.below hb9
              have HB9 := HB.trans (hb9.mono hs8)
              have hR9' : Row w w9 R9 bs := Made.row hR9 hs8
              clear HC HD HB hb9 hR9
              go_wp2_with fail
              refine (rep_any gb 0 1 e v u bs w w9 HD9 (by omega)).mono ?_; rintro ee w10 ⟨R10, rfl, hR10, hb10⟩
              have hs9 := HB9.size
              have HB10 := HB9.trans (hb10.mono hs9)
              have hR10' : Row w w10 R10 bs := Made.row hR10 hs9
              have hR9'' := hR9'.below hb10
              clear HD9 HB9 hb10 hR10 hR9'
              go_wp2_with fail
              refine (msame_any 2 0 1 e v u R9 R10 bs.length bs.length bs w10 hR9''.C (Nat.le_refl _) hR10'.C (Nat.le_refl _) (by omega)).mono ?_; rintro ee w11 ⟨rfl, hb11⟩
              have HB11 := HB10.trans (hb11.mono HB10.size)
              clear HB10 hb11 hR10' hR9''
              go_wp2_with fail
              go_ret
              exact ⟨rfl, HB11⟩
            · have d3 : decide ((j : Int) < (l.length : Int)) = false := by simp; omega
              go_wp2_with fail
              refine (rep_any ga 0 1 e v u bs w wr HC (by omega)).mono ?_; rintro ee w9 ⟨R9, rfl, hR9, hb9⟩
              have hs8 := HB.size
              have HD9 := HD.below hb9
              have HB9 := HB.trans (hb9.mono hs8)
              have hR9' : Row w w9 R9 bs := Made.row hR9 hs8
              clear HC HD HB hb9 hR9
              go_wp2_with fail
              refine (rep_any gb 0 1 e v u bs w w9 HD9 (by omega)).mono ?_; rintro ee w10 ⟨R10, rfl, hR10, hb10⟩
              have hs9 := HB9.size
              have HB10 := HB9.trans (hb10.mono hs9)
              have hR10' : Row w w10 R10 bs := Made.row hR10 hs9
              have hR9'' := hR9'.below hb10
              clear HD9 HB9 hb10 hR10 hR9'
              go_wp2_with fail
              refine (msame_any 2 0 1 e v u R9 R10 bs.length bs.length bs w10 hR9''.C (Nat.le_refl _) hR10'.C (Nat.le_refl _) (by omega)).mono ?_; rintro ee w11 ⟨rfl, hb11⟩
              have HB11 := HB10.trans (hb11.mono HB10.size)
              clear HB10 hb11 hR10' hR9''
              go_wp2_with fail
              go_ret
              exact ⟨rfl, HB11⟩
theorem twice_row (A : Option Addr) (c : Nat) (l : List S42) (w : World) (hr : Kd.C k42 w A l.length l) (hc : l.length ≤ c) {p q : Prop} {a0 a1 a2 a3 a4 a5 a6 a7 : S42 → Prop} (hV : p ∧ q ∧ ∀ x ∈ l, a0 x ∧ a1 x ∧ a2 x ∧ a3 x ∧ a4 x ∧ a5 x ∧ a6 x ∧ a7 x ∧ ∀ y ∈ x.f6, (Lit.int .i64 y).wf = true) :
    Calls Tryd.prog 7 #[.slice A l.length c] w fun e w' => e = .returned (.bool true) ∧ Below w.heap.size w w' :=
  twice A c l w hr hc (fun x hx y hy => wf_i64 ((hV.2.2 x hx).2.2.2.2.2.2.2.2 y hy))
end Go.Proofs.YtpgifeoigconbaaDoor.Cl
