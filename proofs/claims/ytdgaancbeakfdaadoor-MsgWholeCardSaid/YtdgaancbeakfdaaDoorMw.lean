/- MsgWhole: the walk. -/
import Derived.Test.YtdgaancbeakfdaaDoorAw
import Derived.Test.YtdgaancbeakfdaaDoorFg
import Derived.Test.YtdgaancbeakfdaaDoorKm
import Derived.Test.YtdgaancbeakfdaaDoorTu
namespace Go.Proofs.YtdgaancbeakfdaaDoor.Mw
open Go.RowKit Go.Proofs.YtdgaancbeakfdaaDoorW.PrintWords Go.Proofs.YtdgaancbeakfdaaDoorW.PrintLast Go.Proofs.YtdgaancbeakfdaaDoor.Mo Go.Proofs.YtdgaancbeakfdaaDoor.Num Go.Proofs.YtdgaancbeakfdaaDoor.Vth Go.Proofs.YtdgaancbeakfdaaDoor.Vrd Go.Proofs.YtdgaancbeakfdaaDoor.Fth Go.Proofs.YtdgaancbeakfdaaDoor.Fbk Go.Proofs.YtdgaancbeakfdaaDoor.Giv Go.Proofs.YtdgaancbeakfdaaDoor.Q Go.Proofs.YtdgaancbeakfdaaDoor.Rt Go.Proofs.YtdgaancbeakfdaaDoor.Pp Go.Proofs.YtdgaancbeakfdaaDoor.Gp Go.Proofs.YtdgaancbeakfdaaDoor.Gw Go.Proofs.YtdgaancbeakfdaaDoor.Pg Go.Proofs.YtdgaancbeakfdaaDoor.Fg Go.Proofs.YtdgaancbeakfdaaDoor.Turn Go.Proofs.YtdgaancbeakfdaaDoor.Tu
set_option linter.unusedVariables false
set_option linter.unusedSimpArgs false
attribute [local go_sem] max2_int min2_int max_two min_two max_three min_three max_four min_four
def Err (x : ByteArray) : Prop := ∀ W : World, Calls Tryd.prog 11 #[.string x] W fun e w' => ∃ A c, e = .returned (.tuple #[.agg #[.int .i64 0, .int .i64 0, .int .i64 0, .int .i64 0, .int .i64 0, .int .i64 0, .slice A 0 c], .int .i64 160]) ∧ Below W.heap.size W w'
theorem err_of {x : ByteArray} (hx : x.size ≤ 4611686018427387904) (h : (take x).2.2 ≠ 0 ∨ (take x).2.1 ≠ (x.size : Int)) : Err x := by
  intro W
  have h1 := get_any x W hx
  unfold GetPost at h1
  rw [Rd.get_not h] at h1
  refine h1.mono ?_
  rintro e w' ⟨v6, rfl, hR, hb⟩
  obtain ⟨A, c, rfl⟩ := Kd.R_slice hR
  exact ⟨A, c, rfl, hb⟩
theorem pick_nat (c n : Int) (h : I64 c) (hn : 0 < n) : ∃ i : Nat, (i : Int) < n ∧ ∀ w : World, Calls Tryd.prog 16 #[.int .i64 c, .int .i64 n] w fun e w' => e = .returned (.int .i64 (i : Int)) ∧ w' = w := by
  have m0 := Int.emod_nonneg (if c < 0 then -(c + 1) else c) (show n ≠ 0 by omega)
  have m1 := Int.emod_lt_of_pos (if c < 0 then -(c + 1) else c) hn
  obtain ⟨q, hq⟩ := Int.eq_ofNat_of_zero_le m0
  refine ⟨q, by omega, fun w => ?_⟩
  have := pick_same c n w h.1 h.2 hn
  rw [hq] at this
  exact this
set_option maxHeartbeats 8000000 in
set_option maxRecDepth 100000 in
theorem whole_any (b0 b1 b2 b3 b4 b5 : Int) (A0 : Option Addr) (c0 : Nat) (l0 : List S42) (A1 : Option Addr) (c1 : Nat) (l1 : List Int) (a2 a3 : Int) (more : ByteArray) (w : World) (hr0 : Kd.C k42 w A0 l0.length l0) (hc0 : l0.length ≤ c0) (hr1 : Kd.C (Kd.int .i64) w A1 l1.length l1) (hc1 : l1.length ≤ c1) (h0 : I64 b0) (h1 : I64 b1) (h2 : I64 b2) (h3 : I64 b3) (h4 : I64 b4) (h5 : I64 b5) (hl : ∀ x ∈ l1, I64 x) (i2 : I64 a2) (i3 : I64 a3) (hmore : more.size ≤ 140737488351232) :
    Calls Tryd.prog 5 #[.agg #[.int .i64 b0, .int .i64 b1, .int .i64 b2, .int .i64 b3, .int .i64 b4, .int .i64 b5, .slice A0 l0.length c0], .slice A1 l1.length c1, .int .i64 a2, .int .i64 a3, .string more] w fun e w' => e = .returned (.bool true) ∧ Below w.heap.size w w' := by
  obtain ⟨kf, hF⟩ := fit_any b0 b1 b2 b3 b4 b5 l0 l1 h0 h5 hl
  obtain ⟨hsr, hok⟩ := fbS_srt l1 hl
  have hrg := fit_ranges h0 h1 h2 h3 h4 h5
  have hlen := fbS_len l1
  generalize fbS l1 = L at *
  generalize 1 + pk b0 2 = F0 at *
  generalize pk b1 3 = F1 at *
  generalize pk b2 1099511627777 = F2 at *
  generalize pk b3 1099511627777 = F3 at *
  generalize pk b4 1099511627777 = F4 at *
  generalize pk b5 2199023255552 - 1000 = F5 at *
  have hR := right_of hrg (by omega) hsr hok
  have hps : (payload F0 F1 F2 F3 F4 F5 L).size ≤ 1150 := by
    have n1 := Pt.nums_size [F0, F1, F2, F3, F4, F5, (L.length : Int)]
    have n2 := bindsB_size L hok
    unfold payload
    rw [ByteArray.size_append]
    simp only [List.length_cons, List.length_nil] at n1
    omega
  obtain ⟨hs1, hs2⟩ := short hR
  have hP := fun (A : Option Addr) (c : Nat) (w : World) h1 h2 => Pp.put_yes F0 F1 F2 F3 F4 F5 A c L w h1 h2 hR
  generalize payload F0 F1 F2 F3 F4 F5 L = p at *
  have hsz := fr_size p
  have hcn := num_cut p.size (by omega)
  have hcb := num_size_bd p.size
  -- a beginning
  obtain ⟨i1, hi1, hK1⟩ := pick_nat a2 ((fr p).size : Int) i2 (by omega)
  have E1 : Err ((fr p).extract 0 i1) := err_of (by rw [ByteArray.size_extract]; omega) (Or.inl (by rw [take_cut p (by omega) i1 (by omega)]; decide))
  -- what goes on
  have E2 : Err (fr p ++ more ++ ⟨#[0]⟩) := by
    refine err_of (by rw [ByteArray.size_append, ByteArray.size_append]; have : (⟨#[0]⟩ : ByteArray).size = 1 := rfl; omega) (Or.inr ?_)
    rw [ByteArray.append_assoc, take_fr p _ (by omega)]
    dsimp only
    rw [ByteArray.size_append, ByteArray.size_append]; have : (⟨#[0]⟩ : ByteArray).size = 1 := rfl; omega
  have ad1 : ∀ w : World, (Op.stringOp .add (fr p) more).run Tryd.prog w = .ok (.string (fr p ++ more)) w := fun w => run_string_add_sum w (fr p) more (by omega)
  have ad2 : ∀ w : World, (Op.stringOp .add (fr p ++ more) ⟨#[0]⟩).run Tryd.prog w = .ok (.string (fr p ++ more ++ ⟨#[0]⟩)) w := fun w => run_string_add_sum w (fr p ++ more) ⟨#[0]⟩ (by rw [ByteArray.size_append]; have : (⟨#[0]⟩ : ByteArray).size = 1 := rfl; omega)
  have z2 : (fr p ++ more).size = (fr p).size + more.size := ByteArray.size_append
  generalize fr p ++ more ++ ⟨#[0]⟩ = sx at *
  generalize fr p ++ more = sm at *
  -- a byte that is another one
  obtain ⟨hd, hhd⟩ : ∃ hd, hd = (num p.size).size := ⟨_, rfl⟩
  rw [← hhd] at hcn hcb hsz
  obtain ⟨j2, hj2, hK2⟩ := pick_nat a2 (((fr p).size : Int) - hd) i2 (by omega)
  obtain ⟨q, hq, hK3⟩ := pick_nat a3 255 i3 (by omega)
  have hb0 : bt (fr p) 0 = bt (num p.size) 0 := by
    unfold fr seal_ Vrd.text
    rw [ByteArray.append_assoc]
    exact bt_app _ _ 0 (by omega)
  have hbig : (bt (fr p) 0 ≥ 128 ↔ hd = 2) := by
    rw [hb0]
    constructor
    · intro h
      have : (num p.size).size ≠ 1 := fun e => by have := num_one p.size (by omega) e; omega
      omega
    · intro h
      exact hcn.2.2 h
  have E3 : ∀ y : Int, 0 ≤ y → y ≤ 255 → y ≠ bt (fr p) ((hd + j2 : Nat) : Int) → Err (strOfNums ((bytesOf (fr p)).set (hd + j2) y)) := fun y y0 y1 hy =>
    err_of (by rw [strOfNums_size, List.length_set, bytesOf_length]; omega) (Or.inl (by rw [take_turned p (by omega) (hd + j2) y (by omega) (by omega) y0 y1 hy]; decide))
  generalize fr p = s at *
  clear hsr hok hrg hR hb0 hsz
  have hd2 := hcn.1
  clear h0 h1 h2 h3 h4 h5 hl i2 hcn
  have kb := fun W => Lib.run_convert_string_bytes (P := Tryd.prog) W 9 38 5 s Tryd.underlying9 Tryd.underlying38 Tryd.underlying5
  replace hP := Aside0.mk hP
  replace hF := Aside0.mk hF
  replace E1 := Aside0.mk E1
  replace E2 := Aside0.mk E2
  replace E3 := Aside0.mk E3
  replace hK1 := Aside0.mk hK1
  replace hK2 := Aside0.mk hK2
  replace hK3 := Aside0.mk hK3
  replace hbig := Aside0.mk hbig
  clear hhd
  have HA := below_alloc (Below.refl w.heap.size w) (.cells #[.int .i64 b0, .int .i64 b1, .int .i64 b2, .int .i64 b3, .int .i64 b4, .int .i64 b5, .slice A0 l0.length c0] 24)
  have hM := blk_new w (.cells #[.int .i64 b0, .int .i64 b1, .int .i64 b2, .int .i64 b3, .int .i64 b4, .int .i64 b5, .slice A0 l0.length c0] 24)
  have hrA := Kd.C_below hr0 HA
  have hqA := Kd.C_below hr1 HA
  go_enter Tryd.func5, Tryd.ntmps5
  go_wp2_with fail
  refine (Aw.awake_calls _).mono ?_; rintro ee w1 ⟨rfl, hb1⟩
  have hM1 := blk_below hM hb1
  have hr2 := Kd.C_below hrA hb1
  have hq2 := Kd.C_below hqA hb1
  have HB1 := HA.trans (hb1.mono HA.size)
  have m0 := (blk_cell hM1 0).trans rfl
  have m1 := (blk_cell hM1 1).trans rfl
  have m2 := (blk_cell hM1 2).trans rfl
  have m3 := (blk_cell hM1 3).trans rfl
  have m4 := (blk_cell hM1 4).trans rfl
  have m5 := (blk_cell hM1 5).trans rfl
  have m6 := (blk_cell hM1 6).trans rfl
  clear hr0 hr1 hM HA hrA hqA hb1
  go_wp2_with fail
  refine (billetlaw16_Fit.calls kf b0 b1 b2 b3 b4 b5 A0 c0 l0 A1 c1 l1 F0 F1 F2 F3 F4 F5 L w1 hr2 hc0 hq2 hc1 hF.out).mono ?_; rintro ee w2 ⟨v6, rfl, hR2, hb2⟩
  obtain ⟨A2, c2, rfl⟩ := Kd.R_slice hR2
  have HB2 := HB1.trans (hb2.mono HB1.size)
  obtain ⟨_, hc2', hC2⟩ := Kd.R_reads' hR2
  clear m0 m1 m2 m3 m4 m5 m6 hM1 hr2 hq2 HB1 hb2 hR2 hF
  go_wp2_with fail
  refine (hP.out A2 c2 _ hC2 hc2').mono ?_; rintro ee w4 ⟨rfl, hb4⟩
  have H := HB2.trans (hb4.mono HB2.size)
  clear hC2 HB2 hb4 hP
  have q2 : decide ((s.size : Int) < 8) = false := by simp; omega
  go_wp2_with fail
  refine (hK1.out _).mono ?_; rintro ee w5 ⟨rfl, rfl⟩
  go_wp2_with fail
  refine (E1.out _).mono ?_; rintro ee w6 ⟨A3, c3, rfl, hb6⟩
  replace H := H.trans (hb6.mono H.size)
  replace H := below_alloc H (.cells #[.int .i64 0, .int .i64 0, .int .i64 0, .int .i64 0, .int .i64 0, .int .i64 0, .slice A3 0 c3] 24)
  clear hb6 hK1 E1
  go_wp2_with fail
  refine (E2.out _).mono ?_; rintro ee w7 ⟨A4, c4, rfl, hb7⟩
  replace H := H.trans (hb7.mono H.size)
  have hge7 := H.size
  have hB := bytes_new (w7.alloc (.cells #[.int .i64 0, .int .i64 0, .int .i64 0, .int .i64 0, .int .i64 0, .int .i64 0, .slice A4 0 c4] 24)) s
  have hsz8 : (w7.alloc (.cells #[.int .i64 0, .int .i64 0, .int .i64 0, .int .i64 0, .int .i64 0, .int .i64 0, .slice A4 0 c4] 24)).heap.size = w7.heap.size + 1 := by simp
  replace H := bytes_below (below_alloc H (.cells #[.int .i64 0, .int .i64 0, .int .i64 0, .int .i64 0, .int .i64 0, .int .i64 0, .slice A4 0 c4] 24)) (below_alloc H (.cells #[.int .i64 0, .int .i64 0, .int .i64 0, .int .i64 0, .int .i64 0, .int .i64 0, .slice A4 0 c4] 24)).size 5 s
  rw [hsz8] at hB
  clear hsz8 hb7 E2
  obtain ⟨hc0, hf0⟩ := hB 0 (by rw [bytesOf_length]; omega)
  rw [Tu.getD_bt] at hc0
  have hbd0 := bt_range s ((0 : Nat) : Int)
  have hbig' : (bt s ((0 : Nat) : Int) ≥ 128 ↔ hd = 2) := hbig.out
  generalize bt s ((0 : Nat) : Int) = x0 at *
  clear hbig
  by_cases hx0 : 128 ≤ x0
  · obtain rfl : hd = 2 := hbig'.1 hx0
    have d0 : decide (x0 ≥ 128) = true := decide_eq_true hx0
    clear hbig'
    go_wp2_with fail
    generalize grownCap (w7.alloc (.cells #[.int .i64 0, .int .i64 0, .int .i64 0, .int .i64 0, .int .i64 0, .int .i64 0, .slice A4 0 c4] 24)) s.size 0 5 = cp at *
    generalize hB7 : w7.heap.size + 1 = B at *
    generalize Lib.bytesWorld (w7.alloc (.cells #[.int .i64 0, .int .i64 0, .int .i64 0, .int .i64 0, .int .i64 0, .int .i64 0, .slice A4 0 c4] 24)) 5 s = w9 at *
    have hge : w.heap.size ≤ B := by omega
    clear kb hB7 hc0 hf0 d0 hge7
    refine (hK2.out _).mono ?_; rintro ee w10 ⟨rfl, rfl⟩
    obtain ⟨hc, hf⟩ := hB (2 + j2) (by rw [bytesOf_length]; omega)
    rw [Tu.getD_bt] at hc
    have hbt := bt_range s ((2 + j2 : Nat) : Int)
    generalize hx : bt s ((2 + j2 : Nat) : Int) = x at *
    clear hx
    go_wp2_with fail
    rw [show (2 : Int) + (j2 : Int) = ((2 + j2 : Nat) : Int) by omega]
    have hjL : 2 + j2 < s.size := by omega
    generalize 2 + j2 = j at *
    refine wp_region_still_tail 12 (by kernel_rfl) (by kernel_rfl) ?_
    simp only [List.take_succ_cons, List.take_zero, List.drop_succ_cons, List.drop_zero]
    still_step
    still_step
    still_step
    still_step
    still_step
    still_step
    still_step
    still_call (hK3.out _)
    still_step
    still_step
    still_step
    still_step
    refine wpStill_nil ?_
    obtain ⟨y, hy⟩ : ∃ y, bits .xor .u8 x (IntKind.u8.wrap (IntKind.i64.wrap (1 + ↑q))) = y := ⟨_, rfl⟩
    rw [hy]
    have hB2 : Bytes (w10.setCell ⟨B, j, none⟩ (.int .u8 y)).drew B ((bytesOf s).set j y) := fun j' hj' => hB.set j y (by rw [bytesOf_length]; omega) j' hj'
    have H2 : Below w.heap.size w (w10.setCell ⟨B, j, none⟩ (.int .u8 y)).drew := (H.setCell (p := ⟨B, j, none⟩) hge _).drew
    have hcv := str_of (P := Tryd.prog) (n := s.size) (c := cp) Tryd.underlying38 Tryd.underlying5 Tryd.underlying9 hB2 (by rw [List.length_set, bytesOf_length])
    have hd : IntKind.u8.wrap (IntKind.i64.wrap (1 + (q : Int))) = 1 + q := wrap_d q (by omega)
    have hxy := xor_ne x (1 + q) hbt.1 hbt.2 (by omega) (by omega)
    rw [← hd, hy] at hxy
    have E := E3.out y hxy.1 hxy.2.1 hxy.2.2
    generalize strOfNums ((bytesOf s).set j y) = t at *
    clear hB hB2 hd hy hxy E3
    change wpList _ _ _ _ _ w10.drew
    go_wp2_with fail
    refine (E _).mono ?_; rintro ee w12 ⟨A5, c5, rfl, hb12⟩
    replace H2 := H2.trans (hb12.mono H2.size)
    replace H2 := below_alloc H2 (.cells #[.int .i64 0, .int .i64 0, .int .i64 0, .int .i64 0, .int .i64 0, .int .i64 0, .slice A5 0 c5] 24)
    clear hb12
    go_wp2_with fail
    go_ret
    exact ⟨rfl, H2⟩
  · obtain rfl : hd = 1 := by have : hd ≠ 2 := fun e => hx0 (hbig'.2 e); omega
    have d0 : decide (x0 ≥ 128) = false := decide_eq_false hx0
    clear hbig'
    go_wp2_with fail
    generalize grownCap (w7.alloc (.cells #[.int .i64 0, .int .i64 0, .int .i64 0, .int .i64 0, .int .i64 0, .int .i64 0, .slice A4 0 c4] 24)) s.size 0 5 = cp at *
    generalize hB7 : w7.heap.size + 1 = B at *
    generalize Lib.bytesWorld (w7.alloc (.cells #[.int .i64 0, .int .i64 0, .int .i64 0, .int .i64 0, .int .i64 0, .int .i64 0, .slice A4 0 c4] 24)) 5 s = w9 at *
    have hge : w.heap.size ≤ B := by omega
    clear kb hB7 hc0 hf0 d0 hge7
    refine (hK2.out _).mono ?_; rintro ee w10 ⟨rfl, rfl⟩
    obtain ⟨hc, hf⟩ := hB (1 + j2) (by rw [bytesOf_length]; omega)
    rw [Tu.getD_bt] at hc
    have hbt := bt_range s ((1 + j2 : Nat) : Int)
    generalize hx : bt s ((1 + j2 : Nat) : Int) = x at *
    clear hx
    go_wp2_with fail
    rw [show (1 : Int) + (j2 : Int) = ((1 + j2 : Nat) : Int) by omega]
    have hjL : 1 + j2 < s.size := by omega
    generalize 1 + j2 = j at *
    refine wp_region_still_tail 12 (by kernel_rfl) (by kernel_rfl) ?_
    simp only [List.take_succ_cons, List.take_zero, List.drop_succ_cons, List.drop_zero]
    still_step
    still_step
    still_step
    still_step
    still_step
    still_step
    still_step
    still_call (hK3.out _)
    still_step
    still_step
    still_step
    still_step
    refine wpStill_nil ?_
    obtain ⟨y, hy⟩ : ∃ y, bits .xor .u8 x (IntKind.u8.wrap (IntKind.i64.wrap (1 + ↑q))) = y := ⟨_, rfl⟩
    rw [hy]
    have hB2 : Bytes (w10.setCell ⟨B, j, none⟩ (.int .u8 y)).drew B ((bytesOf s).set j y) := fun j' hj' => hB.set j y (by rw [bytesOf_length]; omega) j' hj'
    have H2 : Below w.heap.size w (w10.setCell ⟨B, j, none⟩ (.int .u8 y)).drew := (H.setCell (p := ⟨B, j, none⟩) hge _).drew
    have hcv := str_of (P := Tryd.prog) (n := s.size) (c := cp) Tryd.underlying38 Tryd.underlying5 Tryd.underlying9 hB2 (by rw [List.length_set, bytesOf_length])
    have hd : IntKind.u8.wrap (IntKind.i64.wrap (1 + (q : Int))) = 1 + q := wrap_d q (by omega)
    have hxy := xor_ne x (1 + q) hbt.1 hbt.2 (by omega) (by omega)
    rw [← hd, hy] at hxy
    have E := E3.out y hxy.1 hxy.2.1 hxy.2.2
    generalize strOfNums ((bytesOf s).set j y) = t at *
    clear hB hB2 hd hy hxy E3
    change wpList _ _ _ _ _ w10.drew
    go_wp2_with fail
    refine (E _).mono ?_; rintro ee w12 ⟨A5, c5, rfl, hb12⟩
    replace H2 := H2.trans (hb12.mono H2.size)
    replace H2 := below_alloc H2 (.cells #[.int .i64 0, .int .i64 0, .int .i64 0, .int .i64 0, .int .i64 0, .int .i64 0, .slice A5 0 c5] 24)
    clear hb12
    go_wp2_with fail
    go_ret
    exact ⟨rfl, H2⟩
theorem whole (b0 b1 b2 b3 b4 b5 : Int) (A0 : Option Addr) (c0 : Nat) (l0 : List S42) (A1 : Option Addr) (c1 : Nat) (l1 : List Int) (a2 a3 : Int) (more : ByteArray) (w : World) (hr0 : Kd.C k42 w A0 l0.length l0) (hc0 : l0.length ≤ c0) {P R S : Prop} (hV0 : (Lit.int .i64 b0).wf = true ∧ (Lit.int .i64 b1).wf = true ∧ (Lit.int .i64 b2).wf = true ∧ (Lit.int .i64 b3).wf = true ∧ (Lit.int .i64 b4).wf = true ∧ (Lit.int .i64 b5).wf = true ∧ P) (hr1 : Kd.C (Kd.int .i64) w A1 l1.length l1) (hc1 : l1.length ≤ c1) (hV1 : R ∧ S ∧ ∀ x ∈ l1, (Lit.int .i64 x).wf = true) (w2 : (Lit.int .i64 a2).wf = true) (w3 : (Lit.int .i64 a3).wf = true) (w4 : more.size ≤ 140737488351232) :
    Calls Tryd.prog 5 #[.agg #[.int .i64 b0, .int .i64 b1, .int .i64 b2, .int .i64 b3, .int .i64 b4, .int .i64 b5, .slice A0 l0.length c0], .slice A1 l1.length c1, .int .i64 a2, .int .i64 a3, .string more] w fun e w' => e = .returned (.bool true) ∧ Below w.heap.size w w' :=
  whole_any b0 b1 b2 b3 b4 b5 A0 c0 l0 A1 c1 l1 a2 a3 more w hr0 hc0 hr1 hc1 (Fbk.int64_bd' hV0.1) (Fbk.int64_bd' hV0.2.1) (Fbk.int64_bd' hV0.2.2.1) (Fbk.int64_bd' hV0.2.2.2.1) (Fbk.int64_bd' hV0.2.2.2.2.1) (Fbk.int64_bd' hV0.2.2.2.2.2.1) (fun x hx => Fbk.int64_bd' (hV1.2.2 x hx)) (Fbk.int64_bd' w2) (Fbk.int64_bd' w3) w4
end Go.Proofs.YtdgaancbeakfdaaDoor.Mw
