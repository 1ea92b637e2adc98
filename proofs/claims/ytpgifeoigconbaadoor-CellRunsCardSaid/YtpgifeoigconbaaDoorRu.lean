/- CellRuns: the walk (printed by gen_ru.py). -/
import Derived.Test.YtpgifeoigconbaaDoorAw
namespace Go.Proofs.YtpgifeoigconbaaDoor.Cl
set_option linter.unusedVariables false
set_option linter.unusedSimpArgs false
open Go.RowKit Go.Proofs.YtpgifeoigconbaaDoorW.PrintWords Go.Proofs.YtpgifeoigconbaaDoorW.PrintLast Go.Proofs.YtpgifeoigconbaaDoor.Mo Go.Proofs.YtpgifeoigconbaaDoor.Q Go.Proofs.YtpgifeoigconbaaDoor.Rt
attribute [local go_sem] max2_int min2_int max_two min_two max_three min_three max_four min_four
theorem holdsS_eq {a u : Int} (ha : 0 ≤ a ∧ a ≤ 1000) (hu : 0 ≤ u ∧ u ≤ 1000) : holdsS a u = decide (a < u) := by
  unfold holdsS mn mx
  rw [if_neg (show ¬ a < -1099511627776 by omega), if_neg (show ¬ u < -1099511627776 by omega), if_neg (show ¬ (1099511627776 : Int) < a by omega), if_neg (show ¬ (1099511627776 : Int) < u by omega)]
theorem runS_nil (a u : Int) : runS a u [] = [] := by unfold runS; split <;> rfl
/-- the two cells, and what was granted last -/
def Run2 (w0 W : World) (gc gd : Nat) (e v u e2 v2 : Int) (bs : List S35) (B : Option Addr) : Prop :=
  Cs w0 W gc 0 1 e v u bs ∧ Cs w0 W gd 0 7 e2 v2 0 [] ∧ Below w0.heap.size w0 W ∧ gc ≠ gd ∧ bs.length ≤ 1000 ∧ Row w0 W B bs
theorem recv_d (g : Nat) (e v : Int) (mk mc mb me mv mu : Int) (A : Option Addr) (c : Nat) (mbs : List S35) (w0 w : World)
    (h : Cs w0 w g 0 7 e v 0 []) (hB : Below w0.heap.size w0 w) (hC : Kd.C k35 w A mbs.length mbs) (hc : mbs.length ≤ c) (hml : mbs.length ≤ 2000000000000) (hb : mb < 7) :
    Calls Tryd.prog 11 #[.pointer (some ⟨g, 0, none⟩), .agg #[.int .i64 mk, .int .i64 mc, .int .i64 mb, .int .i64 me, .int .i64 mv, .int .i64 mu, .slice A mbs.length c]] w fun ee w' =>
      ∃ (T : Bool) (e' v' : Int), ee = .returned (.bool T) ∧ Cs w0 w' g 0 7 e' v' 0 [] ∧ Below w0.heap.size w0 w' ∧ KeepBut w w' g none := by
  cases hT : takesS 0 7 e v mk mc mb me mv mu mbs with
  | false => exact (recv_no g 0 7 e v 0 [] mk mc mb me mv mu A c mbs w0 w h hB hC hc hml hT).mono (fun _ _ hh => ⟨false, e, v, hh.1, hh.2.1, hh.2.2.1, hh.2.2.2⟩)
  | true =>
    have hz : mv = 0 := by rcases (takes_in hT).2.2.2 with ⟨h, _⟩ | ⟨_, h, _⟩; exact h; omega
    refine (recv_yes g 0 7 e v 0 [] mk mc mb me mv mu A c mbs w0 w h hB hC hc hml hT).mono ?_
    rintro ee w' ⟨rfl, h1, h2, h3⟩
    rw [if_pos hz, if_pos hz] at h1
    exact ⟨true, me, mv, rfl, h1, h2, h3⟩
set_option maxHeartbeats 16000000 in
set_option maxRecDepth 100000 in
theorem runs (A : Option Addr) (c : Nat) (l : List S42) (now : Int) (w : World) (hr : Kd.C k42 w A l.length l) (hc : l.length ≤ c) (hn : I64 now) (hV : ∀ x ∈ l, I64 x.f2 ∧ I64 x.f4 ∧ I64 x.f5 ∧ ∀ y ∈ x.f6, I64 y) :
    Calls Tryd.prog 6 #[.slice A l.length c, .int .i64 now] w fun e w' => e = .returned (.bool true) ∧ Below w.heap.size w w' := by
  have hnow := pk_in hn (show (0 : Int) < 70 by decide)
  go_enter Tryd.func6, Tryd.ntmps6
  go_wp2_with fail
  refine (awake_any w w (Below.refl _ _)).mono ?_; rintro ee w1 ⟨rfl, HB1⟩
  go_wp2_with fail
  refine (made_any 0 1 w w1 HB1).mono ?_; rintro ee w2 ⟨gc, rfl, HC2, HB2, -, -⟩
  go_wp2_with fail
  refine (made_any 0 7 w w2 HB2).mono ?_; rintro ee w3 ⟨gd, rfl, HD3, HB3, hb3, hge⟩
  have HC3 := HC2.below hb3
  have hne : gc ≠ gd := by have := HC2.lt; omega
  have HI := Aside0.mk (show Run2 w w3 gc gd 0 0 0 0 0 [] none from ⟨HC3, HD3, HB3, hne, by decide, ⟨0, Kd.R_nil _ _ _ _ _⟩⟩)
  clear HB1 HC2 HB2 HD3 HC3 hb3 hge HB3 hne
  go_wp2_with fail
  refine (pick_any now 70 w3 (by decide)).mono ?_; rintro ee w' ⟨rfl, rfl⟩
  generalize pk now 70 = now at *
  go_wp2_with fail
  go_loopg [8, 9, 10] 60 (fun kq v8 v9 v10 w' => ∃ (i d : Nat) (e v u e2 v2 : Int) (bs : List S35) (B : Option Addr), v8 = .slice B bs.length d ∧ v9 = .int .i64 u ∧ v10 = .int .i64 (i : Int) ∧ i + kq = 60 ∧ bs.length ≤ d ∧ 0 ≤ u ∧ u ≤ 1000 ∧ Aside0 (Run2 w w' gc gd e v u e2 v2 bs B))
  case atStart => exact ⟨0, 0, 0, 0, 0, 0, 0, [], none, rfl, rfl, rfl, rfl, Nat.le_refl _, by decide, by decide, HI⟩
  case round =>
    clear HI
    obtain ⟨i, d, e, v, u, e2, v2, bs, B, rfl, rfl, rfl, hik, hbd, hu0, hu1, HI⟩ := hrel
    by_cases h1 : i < l.length ∧ i < 60
    · obtain ⟨m, rfl⟩ : ∃ m, gk = m + 1 := ⟨gk - 1, by omega⟩
      have d1 : decide ((i : Int) < (l.length : Int)) = true := by simp; exact h1.1
      have d2 : decide ((i : Int) < 60) = true := by simp; omega
      have p1 : 0 ≤ (i : Int) := by omega
      have q1 : (i : Int) < (l.length : Int) := by omega
      have e1 : (i : Int).toNat = i := Int.toNat_natCast i
      obtain ⟨ad, FB, fc, rfl, hx0, hx1, hx2, hx3, hx4, hx5, hx6, hfc, hFC⟩ := at42 hr i h1.1
      obtain ⟨HC, HD, HB, hne, hbl, hRB⟩ := HI.out
      replace hne := Aside0.mk hne
      clear HI
      replace p1 := eq_true p1
      replace q1 := eq_true q1
      replace hx0 := cell_up HB hx0
      replace hx1 := cell_up HB hx1
      replace hx2 := cell_up HB hx2
      replace hx3 := cell_up HB hx3
      replace hx4 := cell_up HB hx4
      replace hx5 := cell_up HB hx5
      replace hx6 := cell_up HB hx6
      replace hFC := Kd.C_below hFC HB
      obtain ⟨hI2, hI4, hI5, hI⟩ := hV _ (rd42_mem h1.1)
      generalize rd42 l i = X at *
      have hb3 := pk_in hI2 (show (0 : Int) < 3 by decide)
      have hv7 := pk_in hI4 (show (0 : Int) < 7 by decide)
      have hu6 := pk_in hI5 (show (0 : Int) < 60 by decide)
      replace hb3 := Aside0.mk hb3
      replace hv7 := Aside0.mk hv7
      replace hu6 := Aside0.mk hu6
      go_wp2_with fail
      clear hx0 hx1 hx2 hx3 hx4 hx5 hx6
      refine (fit_any X.f0 X.f1 X.f2 X.f3 X.f4 X.f5 FB fc X.f6 wr hFC hfc hI).mono ?_; rintro ee w5 ⟨MB, md, rfl, hM, hb5⟩
      have hfl := fbS_len X.f6
      generalize hmb : fbS X.f6 = mbs at *
      clear hmb hFC hI hI2 hI4 hI5
      generalize kdS X.f0 = mk
      generalize clS X.f1 = mc
      generalize pk X.f2 3 = mb at *
      generalize pk X.f3 5 = me
      generalize pk X.f4 7 = mv at *
      generalize pk X.f5 60 = mu at *
      have hwr := HB.size
      have HC5 := HC.below hb5
      have HD5 := HD.below hb5
      have HB5 := HB.trans (hb5.mono hwr)
      have hRB5 := hRB.below hb5
      have hmd := (Kd.R_reads' hM).2.1
      have hM5 : Row w w5 MB mbs := ⟨md, Kd.R_lower hM hwr⟩
      have HA := below_alloc (Below.refl w5.heap.size w5) (.cells #[.int .i64 mk, .int .i64 mc, .int .i64 mb, .int .i64 me, .int .i64 mv, .int .i64 mu, .slice MB mbs.length md] 31)
      have hO := blk_new w5 (.cells #[.int .i64 mk, .int .i64 mc, .int .i64 mb, .int .i64 me, .int .i64 mv, .int .i64 mu, .slice MB mbs.length md] 31)
      replace HC5 := HC5.below HA
      replace HD5 := HD5.below HA
      replace hM5 := hM5.below HA
      replace hRB5 := hRB5.below HA
      replace HB5 := HB5.trans (HA.mono HB5.size)
      clear HA HC HD HB hM hb5 hwr hRB
      go_wp2_with fail
      revert hO HC5 HD5 hM5 HB5 hRB5
      generalize hox : w5.heap.size = o1
      generalize w5.alloc (.cells #[.int .i64 mk, .int .i64 mc, .int .i64 mb, .int .i64 me, .int .i64 mv, .int .i64 mu, .slice MB mbs.length md] 31) = wa
      intro hO HC5 HD5 hM5 hRB5 HB5
      have hoa := HC5.ne hO (by decide)
      have hob := HD5.ne hO (by decide)
      clear hox
      cases hT : takesS 0 1 e v mk mc mb me mv mu mbs with
      | false =>
        refine (recv_no gc 0 1 e v u bs mk mc mb me mv mu MB md mbs w wa HC5 HB5 hM5.C hmd (by omega) hT).mono ?_; rintro ee w6 ⟨rfl, HC6, HB6, hk6⟩
        have HD6 := HC5.other HD5 (fun e => hne.out e.symm) hk6
        have hM6 := HC5.keepRow hM5 hk6
        have hRB6 := HC5.keepRow hRB5 hk6
        have hO6 := keep_blk hk6 hO hoa
        clear hO HC5 HD5 hM5 HB5 hk6 hRB5 hT
        have x0 := (blk_cell hO6 0).trans rfl
        have x1 := (blk_cell hO6 1).trans rfl
        have x2 := (blk_cell hO6 2).trans rfl
        have x3 := (blk_cell hO6 3).trans rfl
        have x4 := (blk_cell hO6 4).trans rfl
        have x5 := (blk_cell hO6 5).trans rfl
        have x6 := (blk_cell hO6 6).trans rfl
        go_wp2_with fail
        clear x0 x1 x2 x3 x4 x5 x6
        refine (recv_d gd e2 v2 mk mc mb me mv mu MB md mbs w w6 HD6 HB6 hM6.C hmd (by omega) (by have := hb3.out; omega)).mono ?_; rintro ee w7 ⟨T2, e27, v27, rfl, HD7, HB7, hk7⟩
        have HC7 := HD6.other HC6 hne.out hk7
        have hR7 := HD6.keepRow hRB6 hk7
        clear HC6 HD6 hM6 hO6 HB6 hk7 hRB6
        go_wp2_with fail
        refine (run_any gc 0 1 e v u now bs w w7 HC7 (by omega)).mono ?_; rintro ee w8 ⟨R8, c8, rfl, hc8, hR8, hb8⟩
        have hs7 := HB7.size
        have HC8 := HC7.below hb8
        have HD8 := HD7.below hb8
        have HB8 := HB7.trans (hb8.mono hs7)
        have hRo : Row w w8 B bs := hR7.below hb8
        have hRn : Row w w8 R8 (runS now u bs) := Made.row hR8 hs7
        clear HC7 HD7 HB7 hR7 hR8 hb8
        by_cases hlt : now < u
        · have hd : decide (now < u) = true := decide_eq_true hlt
          have hrs : runS now u bs = bs := by unfold runS; rw [holdsS_eq (by omega) ⟨hu0, hu1⟩, hd]; rfl
          rw [hrs] at hRn hc8 ⊢
          clear hrs hlt
          go_wp2_with fail
          refine (lsame_any R8 B c8 d bs w8 hRn.C hc8 hRo.C hbd (by omega)).mono ?_; rintro ee w9 ⟨rfl, hb9⟩
          replace hb9 := hb9.below
          have hdg : decide (u ≤ now) = false := by have := of_decide_eq_true hd; simp; omega
          have HC9 := HC8.below hb9
          have HD9 := HD8.below hb9
          have HB9 := HB8.trans (hb9.mono HB8.size)
          have hRo9 := hRo.below hb9
          clear HC8 HD8 HB8 hRo hRn hb9
          go_wp2_with fail
          refine (run_any gd 0 7 e27 v27 0 now [] w w9 HD9 (by decide)).mono ?_; rintro ee w10 ⟨R10, c10, rfl, hc10, hR10, hb10⟩
          rw [runS_nil] at *
          go_wp2_with fail
          go_roundg m
          case measure => omega
          case rel => exact ⟨i + 1, d, e, v, u, e27, v27, bs, B, rfl, rfl, by rw [Int.natCast_add]; rfl, by omega, hbd, hu0, hu1, Aside0.mk ⟨HC9.below hb10, HD9.below hb10, HB9.trans (hb10.mono HB9.size), hne.out, by omega, hRo9.below hb10⟩⟩
        · have hd : decide (now < u) = false := decide_eq_false hlt
          have hdg : decide (u ≤ now) = true := by simp; omega
          have hrs : runS now u bs = [] := by unfold runS; rw [holdsS_eq (by omega) ⟨hu0, hu1⟩, hd]; rfl
          rw [hrs] at hRn hc8 ⊢
          clear hrs hlt
          go_wp2_with fail
          refine (run_any gd 0 7 e27 v27 0 now [] w w8 HD8 (by decide)).mono ?_; rintro ee w10 ⟨R10, c10, rfl, hc10, hR10, hb10⟩
          rw [runS_nil] at *
          go_wp2_with fail
          go_roundg m
          case measure => omega
          case rel => exact ⟨i + 1, d, e, v, u, e27, v27, bs, B, rfl, rfl, by rw [Int.natCast_add]; rfl, by omega, hbd, hu0, hu1, Aside0.mk ⟨HC8.below hb10, HD8.below hb10, HB8.trans (hb10.mono HB8.size), hne.out, by omega, hRo.below hb10⟩⟩
      | true =>
        obtain ⟨-, rfl, rfl, hrise⟩ := takes_in hT
        by_cases hz : mv = 0
        · subst hz
          refine (recv_yes gc 0 1 e v u bs 1 0 mb me 0 mu MB md mbs w wa HC5 HB5 hM5.C hmd (by omega) hT).mono ?_; rintro ee w6 ⟨rfl, HC6, HB6, hk6⟩
          rw [if_pos rfl, if_pos rfl] at HC6
          clear hrise
          have HD6 := HC5.other HD5 (fun e => hne.out e.symm) hk6
          have hM6 := HC5.keepRow hM5 hk6
          have hRB6 := HC5.keepRow hRB5 hk6
          have hO6 := keep_blk hk6 hO hoa
          clear hO HC5 HD5 hM5 HB5 hk6 hRB5 hT
          have x0 := (blk_cell hO6 0).trans rfl
          have x1 := (blk_cell hO6 1).trans rfl
          have x2 := (blk_cell hO6 2).trans rfl
          have x3 := (blk_cell hO6 3).trans rfl
          have x4 := (blk_cell hO6 4).trans rfl
          have x5 := (blk_cell hO6 5).trans rfl
          have x6 := (blk_cell hO6 6).trans rfl
          go_wp2_with fail
          clear x0 x1 x2 x3 x4 x5 x6
          refine (recv_d gd e2 v2 1 0 mb me 0 mu MB md mbs w w6 HD6 HB6 hM6.C hmd (by omega) (by have := hb3.out; omega)).mono ?_; rintro ee w7 ⟨T2, e27, v27, rfl, HD7, HB7, hk7⟩
          have HC7 := HD6.other HC6 hne.out hk7
          have hR7 := HD6.keepRow hRB6 hk7
          clear HC6 HD6 hM6 hO6 HB6 hk7 hRB6
          go_wp2_with fail
          refine (run_any gc 0 1 me 0 u now bs w w7 HC7 (by omega)).mono ?_; rintro ee w8 ⟨R8, c8, rfl, hc8, hR8, hb8⟩
          have hs7 := HB7.size
          have HC8 := HC7.below hb8
          have HD8 := HD7.below hb8
          have HB8 := HB7.trans (hb8.mono hs7)
          have hRo : Row w w8 B bs := hR7.below hb8
          have hRn : Row w w8 R8 (runS now u bs) := Made.row hR8 hs7
          clear HC7 HD7 HB7 hR7 hR8 hb8
          by_cases hlt : now < u
          · have hd : decide (now < u) = true := decide_eq_true hlt
            have hrs : runS now u bs = bs := by unfold runS; rw [holdsS_eq (by omega) ⟨hu0, hu1⟩, hd]; rfl
            rw [hrs] at hRn hc8 ⊢
            clear hrs hlt
            go_wp2_with fail
            refine (lsame_any R8 B c8 d bs w8 hRn.C hc8 hRo.C hbd (by omega)).mono ?_; rintro ee w9 ⟨rfl, hb9⟩
            replace hb9 := hb9.below
            have hdg : decide (u ≤ now) = false := by have := of_decide_eq_true hd; simp; omega
            have HC9 := HC8.below hb9
            have HD9 := HD8.below hb9
            have HB9 := HB8.trans (hb9.mono HB8.size)
            have hRo9 := hRo.below hb9
            clear HC8 HD8 HB8 hRo hRn hb9
            go_wp2_with fail
            refine (run_any gd 0 7 e27 v27 0 now [] w w9 HD9 (by decide)).mono ?_; rintro ee w10 ⟨R10, c10, rfl, hc10, hR10, hb10⟩
            rw [runS_nil] at *
            go_wp2_with fail
            go_roundg m
            case measure => omega
            case rel => exact ⟨i + 1, d, me, 0, u, e27, v27, bs, B, rfl, rfl, by rw [Int.natCast_add]; rfl, by omega, hbd, hu0, hu1, Aside0.mk ⟨HC9.below hb10, HD9.below hb10, HB9.trans (hb10.mono HB9.size), hne.out, by omega, hRo9.below hb10⟩⟩
          · have hd : decide (now < u) = false := decide_eq_false hlt
            have hdg : decide (u ≤ now) = true := by simp; omega
            have hrs : runS now u bs = [] := by unfold runS; rw [holdsS_eq (by omega) ⟨hu0, hu1⟩, hd]; rfl
            rw [hrs] at hRn hc8 ⊢
            clear hrs hlt
            go_wp2_with fail
            refine (run_any gd 0 7 e27 v27 0 now [] w w8 HD8 (by decide)).mono ?_; rintro ee w10 ⟨R10, c10, rfl, hc10, hR10, hb10⟩
            rw [runS_nil] at *
            go_wp2_with fail
            go_roundg m
            case measure => omega
            case rel => exact ⟨i + 1, d, me, 0, u, e27, v27, bs, B, rfl, rfl, by rw [Int.natCast_add]; rfl, by omega, hbd, hu0, hu1, Aside0.mk ⟨HC8.below hb10, HD8.below hb10, HB8.trans (hb10.mono HB8.size), hne.out, by omega, hRo.below hb10⟩⟩
        · obtain rfl : mb = 1 := by rcases hrise with ⟨h, _⟩ | ⟨_, h, _⟩; exact absurd h hz; exact h
          refine (recv_yes gc 0 1 e v u bs 1 0 1 me mv mu MB md mbs w wa HC5 HB5 hM5.C hmd (by omega) hT).mono ?_; rintro ee w6 ⟨rfl, HC6, HB6, hk6⟩
          rw [if_neg hz, if_neg hz] at HC6
          have hpos : decide (0 < mv) = true := by have := hv7.out; simp; omega
          have hw0 : 0 ≤ mu := hu6.out.1
          have hw1 : mu ≤ 1000 := by have := hu6.out; omega
          clear hrise hz
          have HD6 := HC5.other HD5 (fun e => hne.out e.symm) hk6
          have hM6 := HC5.keepRow hM5 hk6
          have hRB6 := HC5.keepRow hRB5 hk6
          have hO6 := keep_blk hk6 hO hoa
          clear hO HC5 HD5 hM5 HB5 hk6 hRB5 hT
          have x0 := (blk_cell hO6 0).trans rfl
          have x1 := (blk_cell hO6 1).trans rfl
          have x2 := (blk_cell hO6 2).trans rfl
          have x3 := (blk_cell hO6 3).trans rfl
          have x4 := (blk_cell hO6 4).trans rfl
          have x5 := (blk_cell hO6 5).trans rfl
          have x6 := (blk_cell hO6 6).trans rfl
          go_wp2_with fail
          clear x0 x1 x2 x3 x4 x5 x6
          refine (recv_d gd e2 v2 1 0 1 me mv mu MB md mbs w w6 HD6 HB6 hM6.C hmd (by omega) (by have := hb3.out; omega)).mono ?_; rintro ee w7 ⟨T2, e27, v27, rfl, HD7, HB7, hk7⟩
          have HC7 := HD6.other HC6 hne.out hk7
          have hR7 := HD6.keepRow hM6 hk7
          clear HC6 HD6 hM6 hO6 HB6 hk7 hRB6
          go_wp2_with fail
          refine (run_any gc 0 1 me mv mu now mbs w w7 HC7 (by omega)).mono ?_; rintro ee w8 ⟨R8, c8, rfl, hc8, hR8, hb8⟩
          have hs7 := HB7.size
          have HC8 := HC7.below hb8
          have HD8 := HD7.below hb8
          have HB8 := HB7.trans (hb8.mono hs7)
          have hRo : Row w w8 MB mbs := hR7.below hb8
          have hRn : Row w w8 R8 (runS now mu mbs) := Made.row hR8 hs7
          clear HC7 HD7 HB7 hR7 hR8 hb8
          by_cases hlt : now < mu
          · have hd : decide (now < mu) = true := decide_eq_true hlt
            have hrs : runS now mu mbs = mbs := by unfold runS; rw [holdsS_eq (by omega) ⟨hw0, hw1⟩, hd]; rfl
            rw [hrs] at hRn hc8 ⊢
            clear hrs hlt
            go_wp2_with fail
            refine (lsame_any R8 MB c8 md mbs w8 hRn.C hc8 hRo.C hmd (by omega)).mono ?_; rintro ee w9 ⟨rfl, hb9⟩
            replace hb9 := hb9.below
            have hdg : decide (mu ≤ now) = false := by have := of_decide_eq_true hd; simp; omega
            have HC9 := HC8.below hb9
            have HD9 := HD8.below hb9
            have HB9 := HB8.trans (hb9.mono HB8.size)
            have hRo9 := hRo.below hb9
            clear HC8 HD8 HB8 hRo hRn hb9
            go_wp2_with fail
            refine (run_any gd 0 7 e27 v27 0 now [] w w9 HD9 (by decide)).mono ?_; rintro ee w10 ⟨R10, c10, rfl, hc10, hR10, hb10⟩
            rw [runS_nil] at *
            go_wp2_with fail
            go_roundg m
            case measure => omega
            case rel => exact ⟨i + 1, md, me, mv, mu, e27, v27, mbs, MB, rfl, rfl, by rw [Int.natCast_add]; rfl, by omega, hmd, hw0, hw1, Aside0.mk ⟨HC9.below hb10, HD9.below hb10, HB9.trans (hb10.mono HB9.size), hne.out, by omega, hRo9.below hb10⟩⟩
          · have hd : decide (now < mu) = false := decide_eq_false hlt
            have hdg : decide (mu ≤ now) = true := by simp; omega
            have hrs : runS now mu mbs = [] := by unfold runS; rw [holdsS_eq (by omega) ⟨hw0, hw1⟩, hd]; rfl
            rw [hrs] at hRn hc8 ⊢
            clear hrs hlt
            go_wp2_with fail
            refine (run_any gd 0 7 e27 v27 0 now [] w w8 HD8 (by decide)).mono ?_; rintro ee w10 ⟨R10, c10, rfl, hc10, hR10, hb10⟩
            rw [runS_nil] at *
            go_wp2_with fail
            go_roundg m
            case measure => omega
            case rel => exact ⟨i + 1, md, me, mv, mu, e27, v27, mbs, MB, rfl, rfl, by rw [Int.natCast_add]; rfl, by omega, hmd, hw0, hw1, Aside0.mk ⟨HC8.below hb10, HD8.below hb10, HB8.trans (hb10.mono HB8.size), hne.out, by omega, hRo.below hb10⟩⟩
    · by_cases h2 : i < l.length
      · have d1 : decide ((i : Int) < (l.length : Int)) = true := by simp; exact h2
        have d2 : decide ((i : Int) < 60) = false := by simp; omega
        go_wp2_with fail
        go_ret
        exact ⟨rfl, HI.out.2.2.1⟩
      · have d1 : decide ((i : Int) < (l.length : Int)) = false := by simp; omega
        go_wp2_with fail
        go_ret
        exact ⟨rfl, HI.out.2.2.1⟩
theorem runs_row (A : Option Addr) (c : Nat) (l : List S42) (now : Int) (w : World) (hr : Kd.C k42 w A l.length l) (hc : l.length ≤ c) {p q : Prop} {a0 a1 a3 a6 a7 : S42 → Prop} (hV : p ∧ q ∧ ∀ x ∈ l, a0 x ∧ a1 x ∧ (Lit.int .i64 x.f2).wf = true ∧ a3 x ∧ (Lit.int .i64 x.f4).wf = true ∧ (Lit.int .i64 x.f5).wf = true ∧ a6 x ∧ a7 x ∧ ∀ y ∈ x.f6, (Lit.int .i64 y).wf = true) (hn : (Lit.int .i64 now).wf = true) :
    Calls Tryd.prog 6 #[.slice A l.length c, .int .i64 now] w fun e w' => e = .returned (.bool true) ∧ Below w.heap.size w w' :=
  runs A c l now w hr hc (wf_i64 hn) (fun x hx => ⟨wf_i64 (hV.2.2 x hx).2.2.1, wf_i64 (hV.2.2 x hx).2.2.2.2.1, wf_i64 (hV.2.2 x hx).2.2.2.2.2.1, fun y hy => wf_i64 ((hV.2.2 x hx).2.2.2.2.2.2.2.2 y hy)⟩)
end Go.Proofs.YtpgifeoigconbaaDoor.Cl
