/- thin -/
-- Written by a program of this session (mp.py).
import Derived.Test.YtldlkbjbfgieeaaGreatDoorQx0
import Derived.Test.YtldlkbjbfgieeaaGreatDoorQx121
namespace Go.Proofs.YtldlkbjbfgieeaaGreatDoor.Q
open Go.RowKit Go.Proofs.YtldlkbjbfgieeaaGreatDoorW.PrintWords Go.Proofs.YtldlkbjbfgieeaaGreatDoorW.PrintLast Mo
attribute [local go_sem] max2_int min2_int max_two min_two max_three min_three max_four min_four   -- for this text's walks alone
open Giv Gn Ll Lb
set_option linter.unusedVariables false
set_option linter.unusedSimpArgs false

/-! ### varint_Reader_Num: function 54 -/
mutual
def varint_Reader_Num.l0 : Nat → Int → Int → ByteArray → Int → Bool → Option (Int × ByteArray × Int × Bool)
 | 0, _, _, _, _, _ => none
 | k + 1, x3, x4, x1000, x1001, x1002 => if x1002 = true then (varint_Reader_Num.j1 k x3 x4 false x1000 x1001 x1002) else ((varint_Reader_Left.f x1000 x1001 x1002).bind fun bt508 => (if x4 < bt508.1 then (varint_Reader_Num.j1 k x3 x4 (decide (x4 < 10)) bt508.2.1 bt508.2.2.1 bt508.2.2.2) else (varint_Reader_Num.j1 k x3 x4 false bt508.2.1 bt508.2.2.1 bt508.2.2.2)))
def varint_Reader_Num.j1 : Nat → Int → Int → Bool → ByteArray → Int → Bool → Option (Int × ByteArray × Int × Bool)
 | 0, _, _, _, _, _, _ => none
 | k + 1, x3, x4, x20, x1000, x1001, x1002 => if x20 = true then (if 0 ≤ (wrap64 (x1001 + x4)) then (if (wrap64 (x1001 + x4)) < (x1000.size : Int) then (if x4 = 9 then (varint_Reader_Num.j2 k x3 x4 (bt x1000 (wrap64 (x1001 + x4))) (decide ((bt x1000 (wrap64 (x1001 + x4))) > 1)) x1000 x1001 x1002) else (varint_Reader_Num.j2 k x3 x4 (bt x1000 (wrap64 (x1001 + x4))) false x1000 x1001 x1002)) else (none)) else (none)) else ((varint_Reader_spoil.f x1000 x1001 x1002).bind fun bt512 => (some (0, bt512.1, bt512.2.1, bt512.2.2)))
def varint_Reader_Num.j2 : Nat → Int → Int → Int → Bool → ByteArray → Int → Bool → Option (Int × ByteArray × Int × Bool)
 | 0, _, _, _, _, _, _, _ => none
 | k + 1, x3, x4, x5, x39, x1000, x1001, x1002 => if x39 = true then ((varint_Reader_spoil.f x1000 x1001 x1002).bind fun bt515 => (some (0, bt515.1, bt515.2.1, bt515.2.2))) else (if 0 ≤ (wrap64 (7 * x4)) then (if x5 < 128 then (if x5 = 0 then (if x4 > 0 then ((varint_Reader_spoil.f x1000 x1001 x1002).bind fun bt518 => (some (0, bt518.1, bt518.2.1, bt518.2.2))) else (some (Go.bits .xor .i64 (wrap64 ((Go.bits .or .u64 x3 (shl .u64 (IntKind.u64.wrap (Go.bits .andNot .u8 x5 128)) (wrap64 (7 * x4)))) / 2)) (wrap64 (-(wrap64 (Go.bits .and .u64 (Go.bits .or .u64 x3 (shl .u64 (IntKind.u64.wrap (Go.bits .andNot .u8 x5 128)) (wrap64 (7 * x4)))) 1)))), x1000, wrap64 (x1001 + (wrap64 (x4 + 1))), x1002))) else (some (Go.bits .xor .i64 (wrap64 ((Go.bits .or .u64 x3 (shl .u64 (IntKind.u64.wrap (Go.bits .andNot .u8 x5 128)) (wrap64 (7 * x4)))) / 2)) (wrap64 (-(wrap64 (Go.bits .and .u64 (Go.bits .or .u64 x3 (shl .u64 (IntKind.u64.wrap (Go.bits .andNot .u8 x5 128)) (wrap64 (7 * x4)))) 1)))), x1000, wrap64 (x1001 + (wrap64 (x4 + 1))), x1002))) else (varint_Reader_Num.l0 k (Go.bits .or .u64 x3 (shl .u64 (IntKind.u64.wrap (Go.bits .andNot .u8 x5 128)) (wrap64 (7 * x4)))) (wrap64 (x4 + 1)) x1000 x1001 x1002)) else (none))
end
def varint_Reader_Num.f (k : Nat) (s0_0 : ByteArray) (s0_1 : Int) (s0_2 : Bool) : Option (Int × ByteArray × Int × Bool) := varint_Reader_Num.l0 k 0 0 s0_0 s0_1 s0_2
set_option maxHeartbeats 8000000 in
set_option maxRecDepth 100000 in
theorem varint_Reader_Num.calls (k : Nat) (g : Nat) (s0_0 : ByteArray) (s0_1 : Int) (s0_2 : Bool) (r1 : Int) (r2 : ByteArray) (r3 : Int) (r4 : Bool) (w0 w : World) (hI : IsS121 w0 w g s0_0 s0_1 s0_2) (hB : Below w0.heap.size w0 w) (h : varint_Reader_Num.f k s0_0 s0_1 s0_2 = some (r1, r2, r3, r4)) :
 Calls Tryz.prog 54 #[.pointer (some ⟨g, 0, none⟩)] w fun e w' => e = .returned (.int .i64 r1) ∧ IsS121 w0 w' g r2 r3 r4 ∧ Below w0.heap.size w0 w' ∧ KeepBut w w' g none := by
 have HI0 := Aside0.mk hI
 have HK := Aside0.mk (KeepBut.refl w g none)
 have HL := Aside0.mk hB.size
 clear hI
 have HW0 := Aside0.mk hB.size
 have HB := Aside0.mk hB
 clear hB
 have H : (varint_Reader_Num.l0 k 0 0 s0_0 s0_1 s0_2) = some (r1, r2, r3, r4) := h
 clear h
 have H' := Aside0.mk H
 clear H
 go_enter Tryz.func54, Tryz.ntmps54
 go_wp2
 repeat (go_quiet (fail); try go_wp2)
 go_loopg [3, 4] k (fun kq v3 v4 w' => ∃ (x3_1 : Int) (x4_1 : Int) (x1000_1 : ByteArray) (x1001_1 : Int) (x1002_1 : Bool), v3 = .int .u64 x3_1 ∧ v4 = .int .i64 x4_1 ∧ Aside0 (varint_Reader_Num.l0 kq x3_1 x4_1 x1000_1 x1001_1 x1002_1 = some (r1, r2, r3, r4)) ∧ Aside0 (kq ≤ k) ∧ Aside0 (IsS121 w0 w' g x1000_1 x1001_1 x1002_1) ∧ Aside0 (KeepBut w w' g none) ∧ Aside0 (Below w0.heap.size w0 w'))
 case atStart => exact ⟨(0), (0), (s0_0), (s0_1), (s0_2), (by first | rfl | (simp; done) | (simp [*]; done)), (by first | rfl | (simp; done) | (simp [*]; done)), H', ⟨Nat.le_refl _⟩, ⟨by repeat (first | (with_reducible first | exact HI0.out | apply IsS121.alloc | apply IsS121.drewN | apply IsS121.drew | apply IsS121.set_0 | apply IsS121.set_1 | apply IsS121.set_2) | exact HI0.out)⟩, ⟨by repeat (first | (with_reducible first | exact HK.out | apply KeepBut.set_ | apply keep_drewN | apply keep_drew | apply keep_alloc) | exact HK.out)⟩, ⟨by repeat (first | (with_reducible first | exact HB.out | apply below_alloc | apply pw_below_drewN | apply below_drew1 | refine below_set ?_ (IsS121.ge HI0.out)) | exact HB.out)⟩⟩
 case round =>
  clear H'
  obtain ⟨x3_1, x4_1, x1000_1, x1001_1, x1002_1, rfl, rfl, HA, HK1, HI0, HK, HB⟩ := hrel
  cases gk with
  | zero => exact absurd HA.out (by simp [varint_Reader_Num.l0])
  | succ k1 =>
   have H := HA.out
   clear HA
   simp only [varint_Reader_Num.l0] at H
   have HC2 := Aside0.mk H
   clear H
   go_upto_region 3 with (fail)
   repeat (go_quiet (fail); go_upto_region 3 with (fail))
   go_cut [20] (fun v20 wc => ∃ (kq : Nat) (x20_1 : Bool) (x1000_1 : ByteArray) (x1001_1 : Int) (x1002_1 : Bool), v20 = .bool x20_1 ∧ Aside0 (varint_Reader_Num.j1 kq x3_1 x4_1 x20_1 x1000_1 x1001_1 x1002_1 = some (r1, r2, r3, r4)) ∧ Aside0 (kq ≤ k1) ∧ Aside0 (IsS121 w0 wc g x1000_1 x1001_1 x1002_1) ∧ Aside0 (KeepBut w wc g none) ∧ Aside0 (Below w0.heap.size w0 wc))
   case first =>
    have H := HC2.out
    clear HC2
    by_cases c3 : x1002_1 = true
    ·subst c3
     have H1 : (varint_Reader_Num.j1 k1 x3_1 x4_1 false x1000_1 x1001_1 true) = some (r1, r2, r3, r4) := by rw [if_pos rfl] at H; exact H
     clear H
     have H := H1
     clear H1
     have H' := Aside0.mk H
     clear H
     obtain ⟨HGz4, hgz4⟩ := HI0.out
     have hcz4_0 := cellS121_0 HGz4
     have hcz4_1 := cellS121_1 HGz4
     have hcz4_2 := cellS121_2 HGz4
     have hfz4_0 := blk_frozen HGz4 0
     have hfz4_1 := blk_frozen HGz4 1
     have hfz4_2 := blk_frozen HGz4 2
     clear HGz4 hgz4
     go_wp2
     repeat (go_quiet (fail); try go_wp2)
     go_meet
     case rel => exact ⟨_, (false), (x1000_1), (x1001_1), (true), (by first | rfl | (simp; done) | (simp [*]; done)), H', ⟨by have := HK1.out; first | omega | exact Nat.le_refl _⟩, ⟨by repeat (first | (with_reducible first | exact HI0.out | apply IsS121.alloc | apply IsS121.drewN | apply IsS121.drew | apply IsS121.set_0 | apply IsS121.set_1 | apply IsS121.set_2) | exact HI0.out)⟩, ⟨by repeat (first | (with_reducible first | exact HK.out | apply KeepBut.set_ | apply keep_drewN | apply keep_drew | apply keep_alloc) | exact HK.out)⟩, ⟨by repeat (first | (with_reducible first | exact HB.out | apply below_alloc | apply pw_below_drewN | apply below_drew1 | refine below_set ?_ (IsS121.ge HI0.out)) | exact HB.out)⟩⟩
    ·replace c3 := Bool.eq_false_iff.mpr c3
     subst c3
     have H1 : ((varint_Reader_Left.f x1000_1 x1001_1 false).bind fun bt508 => (if x4_1 < bt508.1 then (varint_Reader_Num.j1 k1 x3_1 x4_1 (decide (x4_1 < 10)) bt508.2.1 bt508.2.2.1 bt508.2.2.2) else (varint_Reader_Num.j1 k1 x3_1 x4_1 false bt508.2.1 bt508.2.2.1 bt508.2.2.2))) = some (r1, r2, r3, r4) := by rw [if_neg (show ¬ (false = true) by decide)] at H; exact H
     clear H
     have H := H1
     clear H1
     replace H := Option.bind_eq_some_iff.mp H
     obtain ⟨⟨t508, t509, t510, t511⟩, A50, H⟩ := H
     replace H : (if x4_1 < t508 then (varint_Reader_Num.j1 k1 x3_1 x4_1 (decide (x4_1 < 10)) t509 t510 t511) else (varint_Reader_Num.j1 k1 x3_1 x4_1 false t509 t510 t511)) = some (r1, r2, r3, r4) := H
     have A5 := Aside0.mk A50
     clear A50
     by_cases c6 : x4_1 < t508
     ·rw [if_pos c6] at H
      have c6b0 : decide (x4_1 < t508) = true := decide_eq_true c6
      clear c6
      (first | rw [c6b0] | (simp only [i64_w, i32_w]; rw [c6b0]) | skip)
      have H' := Aside0.mk H
      clear H
      obtain ⟨HGz7, hgz7⟩ := HI0.out
      have hcz7_0 := cellS121_0 HGz7
      have hcz7_1 := cellS121_1 HGz7
      have hcz7_2 := cellS121_2 HGz7
      have hfz7_0 := blk_frozen HGz7 0
      have hfz7_1 := blk_frozen HGz7 1
      have hfz7_2 := blk_frozen HGz7 2
      clear HGz7 hgz7
      go_wp2_with (first | (go_at_call 87; (with_reducible refine (varint_Reader_Left.calls g x1000_1 x1001_1 false t508 t509 t510 t511 w0 _ ?side1 ?side2 A5.out).mono ?_); (case side1 => repeat (first | (with_reducible first | exact HI0.out | apply IsS121.alloc | apply IsS121.drewN | apply IsS121.drew | apply IsS121.set_0 | apply IsS121.set_1 | apply IsS121.set_2) | exact HI0.out)); (case side2 => repeat (first | (with_reducible first | exact HB.out | apply below_alloc | apply pw_below_drewN | apply below_drew1 | refine below_set ?_ (IsS121.ge HI0.out)) | exact HB.out)); rintro e w8 ⟨rfl, hi, hb, hk⟩; have n0_ := Aside0.mk (KeepBut.trans (by repeat (first | (with_reducible first | exact HK.out | apply KeepBut.set_ | apply keep_drewN | apply keep_drew | apply keep_alloc) | exact HK.out)) hk (.inl rfl)); have n1_ := Aside0.mk (hb); have n2_ := Aside0.mk (hi); clear HK; clear HB; clear HI0; have HK := n0_; have HB := n1_; have HI0 := n2_; clear n0_ n1_ n2_; (try clear hb); (try clear hb2); (try clear hk); (try clear hi); (try clear hge)))
      repeat (go_quiet (first | (go_at_call 87; (with_reducible refine (varint_Reader_Left.calls g x1000_1 x1001_1 false t508 t509 t510 t511 w0 _ ?side1 ?side2 A5.out).mono ?_); (case side1 => repeat (first | (with_reducible first | exact HI0.out | apply IsS121.alloc | apply IsS121.drewN | apply IsS121.drew | apply IsS121.set_0 | apply IsS121.set_1 | apply IsS121.set_2) | exact HI0.out)); (case side2 => repeat (first | (with_reducible first | exact HB.out | apply below_alloc | apply pw_below_drewN | apply below_drew1 | refine below_set ?_ (IsS121.ge HI0.out)) | exact HB.out)); rintro e w8 ⟨rfl, hi, hb, hk⟩; have n0_ := Aside0.mk (KeepBut.trans (by repeat (first | (with_reducible first | exact HK.out | apply KeepBut.set_ | apply keep_drewN | apply keep_drew | apply keep_alloc) | exact HK.out)) hk (.inl rfl)); have n1_ := Aside0.mk (hb); have n2_ := Aside0.mk (hi); clear HK; clear HB; clear HI0; have HK := n0_; have HB := n1_; have HI0 := n2_; clear n0_ n1_ n2_; (try clear hb); (try clear hb2); (try clear hk); (try clear hi); (try clear hge))); try go_wp2_with (first | (go_at_call 87; (with_reducible refine (varint_Reader_Left.calls g x1000_1 x1001_1 false t508 t509 t510 t511 w0 _ ?side1 ?side2 A5.out).mono ?_); (case side1 => repeat (first | (with_reducible first | exact HI0.out | apply IsS121.alloc | apply IsS121.drewN | apply IsS121.drew | apply IsS121.set_0 | apply IsS121.set_1 | apply IsS121.set_2) | exact HI0.out)); (case side2 => repeat (first | (with_reducible first | exact HB.out | apply below_alloc | apply pw_below_drewN | apply below_drew1 | refine below_set ?_ (IsS121.ge HI0.out)) | exact HB.out)); rintro e w8 ⟨rfl, hi, hb, hk⟩; have n0_ := Aside0.mk (KeepBut.trans (by repeat (first | (with_reducible first | exact HK.out | apply KeepBut.set_ | apply keep_drewN | apply keep_drew | apply keep_alloc) | exact HK.out)) hk (.inl rfl)); have n1_ := Aside0.mk (hb); have n2_ := Aside0.mk (hi); clear HK; clear HB; clear HI0; have HK := n0_; have HB := n1_; have HI0 := n2_; clear n0_ n1_ n2_; (try clear hb); (try clear hb2); (try clear hk); (try clear hi); (try clear hge))))
      go_meet
      case rel => exact ⟨_, (decide (x4_1 < 10)), (t509), (t510), (t511), (by first | rfl | (simp; done) | (simp [*]; done)), H', ⟨by have := HK1.out; first | omega | exact Nat.le_refl _⟩, ⟨by repeat (first | (with_reducible first | exact HI0.out | apply IsS121.alloc | apply IsS121.drewN | apply IsS121.drew | apply IsS121.set_0 | apply IsS121.set_1 | apply IsS121.set_2) | exact HI0.out)⟩, ⟨by repeat (first | (with_reducible first | exact HK.out | apply KeepBut.set_ | apply keep_drewN | apply keep_drew | apply keep_alloc) | exact HK.out)⟩, ⟨by repeat (first | (with_reducible first | exact HB.out | apply below_alloc | apply pw_below_drewN | apply below_drew1 | refine below_set ?_ (IsS121.ge HI0.out)) | exact HB.out)⟩⟩
     ·rw [if_neg c6] at H
      have c6b0 : decide (x4_1 < t508) = false := decide_eq_false c6
      clear c6
      (first | rw [c6b0] | (simp only [i64_w, i32_w]; rw [c6b0]) | skip)
      have H' := Aside0.mk H
      clear H
      obtain ⟨HGz9, hgz9⟩ := HI0.out
      have hcz9_0 := cellS121_0 HGz9
      have hcz9_1 := cellS121_1 HGz9
      have hcz9_2 := cellS121_2 HGz9
      have hfz9_0 := blk_frozen HGz9 0
      have hfz9_1 := blk_frozen HGz9 1
      have hfz9_2 := blk_frozen HGz9 2
      clear HGz9 hgz9
      go_wp2_with (first | (go_at_call 87; (with_reducible refine (varint_Reader_Left.calls g x1000_1 x1001_1 false t508 t509 t510 t511 w0 _ ?side1 ?side2 A5.out).mono ?_); (case side1 => repeat (first | (with_reducible first | exact HI0.out | apply IsS121.alloc | apply IsS121.drewN | apply IsS121.drew | apply IsS121.set_0 | apply IsS121.set_1 | apply IsS121.set_2) | exact HI0.out)); (case side2 => repeat (first | (with_reducible first | exact HB.out | apply below_alloc | apply pw_below_drewN | apply below_drew1 | refine below_set ?_ (IsS121.ge HI0.out)) | exact HB.out)); rintro e w10 ⟨rfl, hi, hb, hk⟩; have n0_ := Aside0.mk (KeepBut.trans (by repeat (first | (with_reducible first | exact HK.out | apply KeepBut.set_ | apply keep_drewN | apply keep_drew | apply keep_alloc) | exact HK.out)) hk (.inl rfl)); have n1_ := Aside0.mk (hb); have n2_ := Aside0.mk (hi); clear HK; clear HB; clear HI0; have HK := n0_; have HB := n1_; have HI0 := n2_; clear n0_ n1_ n2_; (try clear hb); (try clear hb2); (try clear hk); (try clear hi); (try clear hge)))
      repeat (go_quiet (first | (go_at_call 87; (with_reducible refine (varint_Reader_Left.calls g x1000_1 x1001_1 false t508 t509 t510 t511 w0 _ ?side1 ?side2 A5.out).mono ?_); (case side1 => repeat (first | (with_reducible first | exact HI0.out | apply IsS121.alloc | apply IsS121.drewN | apply IsS121.drew | apply IsS121.set_0 | apply IsS121.set_1 | apply IsS121.set_2) | exact HI0.out)); (case side2 => repeat (first | (with_reducible first | exact HB.out | apply below_alloc | apply pw_below_drewN | apply below_drew1 | refine below_set ?_ (IsS121.ge HI0.out)) | exact HB.out)); rintro e w10 ⟨rfl, hi, hb, hk⟩; have n0_ := Aside0.mk (KeepBut.trans (by repeat (first | (with_reducible first | exact HK.out | apply KeepBut.set_ | apply keep_drewN | apply keep_drew | apply keep_alloc) | exact HK.out)) hk (.inl rfl)); have n1_ := Aside0.mk (hb); have n2_ := Aside0.mk (hi); clear HK; clear HB; clear HI0; have HK := n0_; have HB := n1_; have HI0 := n2_; clear n0_ n1_ n2_; (try clear hb); (try clear hb2); (try clear hk); (try clear hi); (try clear hge))); try go_wp2_with (first | (go_at_call 87; (with_reducible refine (varint_Reader_Left.calls g x1000_1 x1001_1 false t508 t509 t510 t511 w0 _ ?side1 ?side2 A5.out).mono ?_); (case side1 => repeat (first | (with_reducible first | exact HI0.out | apply IsS121.alloc | apply IsS121.drewN | apply IsS121.drew | apply IsS121.set_0 | apply IsS121.set_1 | apply IsS121.set_2) | exact HI0.out)); (case side2 => repeat (first | (with_reducible first | exact HB.out | apply below_alloc | apply pw_below_drewN | apply below_drew1 | refine below_set ?_ (IsS121.ge HI0.out)) | exact HB.out)); rintro e w10 ⟨rfl, hi, hb, hk⟩; have n0_ := Aside0.mk (KeepBut.trans (by repeat (first | (with_reducible first | exact HK.out | apply KeepBut.set_ | apply keep_drewN | apply keep_drew | apply keep_alloc) | exact HK.out)) hk (.inl rfl)); have n1_ := Aside0.mk (hb); have n2_ := Aside0.mk (hi); clear HK; clear HB; clear HI0; have HK := n0_; have HB := n1_; have HI0 := n2_; clear n0_ n1_ n2_; (try clear hb); (try clear hb2); (try clear hk); (try clear hi); (try clear hge))))
      go_meet
      case rel => exact ⟨_, (false), (t509), (t510), (t511), (by first | rfl | (simp; done) | (simp [*]; done)), H', ⟨by have := HK1.out; first | omega | exact Nat.le_refl _⟩, ⟨by repeat (first | (with_reducible first | exact HI0.out | apply IsS121.alloc | apply IsS121.drewN | apply IsS121.drew | apply IsS121.set_0 | apply IsS121.set_1 | apply IsS121.set_2) | exact HI0.out)⟩, ⟨by repeat (first | (with_reducible first | exact HK.out | apply KeepBut.set_ | apply keep_drewN | apply keep_drew | apply keep_alloc) | exact HK.out)⟩, ⟨by repeat (first | (with_reducible first | exact HB.out | apply below_alloc | apply pw_below_drewN | apply below_drew1 | refine below_set ?_ (IsS121.ge HI0.out)) | exact HB.out)⟩⟩
   case rest =>
    clear HC2
    try clear p2
    try clear c3
    try clear c5
    try clear c6
    try clear c6b0
    try clear hcz4_0
    try clear hcz4_1
    try clear hcz4_2
    try clear hcz7_0
    try clear hcz7_1
    try clear hcz7_2
    try clear hcz9_0
    try clear hcz9_1
    try clear hcz9_2
    try clear hfz4_0
    try clear hfz4_1
    try clear hfz4_2
    try clear hfz7_0
    try clear hfz7_1
    try clear hfz7_2
    try clear hfz9_0
    try clear hfz9_1
    try clear hfz9_2
    obtain ⟨kq, x20_1, x1000_1, x1001_1, x1002_1, rfl, HA, HJ1, HI0, HK, HB⟩ := hcut
    cases kq with
    | zero => exact absurd HA.out (by simp [varint_Reader_Num.j1])
    | succ kj1 =>
     have H := HA.out
     clear HA
     simp only [varint_Reader_Num.j1] at H
     by_cases c11 : x20_1 = true
     ·subst c11
      have H1 : (if 0 ≤ (wrap64 (x1001_1 + x4_1)) then (if (wrap64 (x1001_1 + x4_1)) < (x1000_1.size : Int) then (if x4_1 = 9 then (varint_Reader_Num.j2 kj1 x3_1 x4_1 (bt x1000_1 (wrap64 (x1001_1 + x4_1))) (decide ((bt x1000_1 (wrap64 (x1001_1 + x4_1))) > 1)) x1000_1 x1001_1 x1002_1) else (varint_Reader_Num.j2 kj1 x3_1 x4_1 (bt x1000_1 (wrap64 (x1001_1 + x4_1))) false x1000_1 x1001_1 x1002_1)) else (none)) else (none)) = some (r1, r2, r3, r4) := by rw [if_pos rfl] at H; exact H
      clear H
      have H := H1
      clear H1
      obtain ⟨ji12, hji12⟩ : ∃ j_ : Int, (wrap64 (x1001_1 + x4_1)) = j_ := ⟨_, rfl⟩
      replace H : (if 0 ≤ (ji12) then (if (ji12) < (x1000_1.size : Int) then (if x4_1 = 9 then (varint_Reader_Num.j2 kj1 x3_1 x4_1 (bt x1000_1 (ji12)) (decide ((bt x1000_1 (ji12)) > 1)) x1000_1 x1001_1 x1002_1) else (varint_Reader_Num.j2 kj1 x3_1 x4_1 (bt x1000_1 (ji12)) false x1000_1 x1001_1 x1002_1)) else (none)) else (none)) = some (r1, r2, r3, r4) := by first | (rw [hji12] at H; exact H) | (simp only [hji12] at H ⊢; exact H)
      have hji12w : (IntKind.i64.wrap (x1001_1 + x4_1)) = ji12 := (i64_w _).trans hji12
      by_cases c13 : 0 ≤ (ji12)
      ·rw [if_pos c13] at H
       have c13b0 : decide (0 ≤ (ji12)) = true := decide_eq_true c13
       clear c13
       by_cases c14 : (ji12) < (x1000_1.size : Int)
       ·rw [if_pos c14] at H
        have c14b0 : decide ((ji12) < (x1000_1.size : Int)) = true := decide_eq_true c14
        clear c14
        have HC16 := Aside0.mk H
        clear H
        obtain ⟨HGz17, hgz17⟩ := HI0.out
        have hcz17_0 := cellS121_0 HGz17
        have hcz17_1 := cellS121_1 HGz17
        have hcz17_2 := cellS121_2 HGz17
        have hfz17_0 := blk_frozen HGz17 0
        have hfz17_1 := blk_frozen HGz17 1
        have hfz17_2 := blk_frozen HGz17 2
        clear HGz17 hgz17
        have p15 : 0 ≤ ((ji12) : Int) := of_decide_eq_true (by first | (with_reducible assumption) | assumption)
        have q15 : (ji12) < (x1000_1.size : Int) := of_decide_eq_true (by first | (with_reducible assumption) | assumption)
        have hx15 := bt_at x1000_1 (ji12)
        replace p15 := eq_true p15
        (try replace p15z := eq_true p15z)
        replace q15 := eq_true q15
        (try replace q15z := eq_true q15z)
        go_upto_region 6 with (fail)
        repeat (go_quiet (fail); go_upto_region 6 with (fail))
        go_cut [39] (fun v39 wc => ∃ (kq : Nat) (x39_15 : Bool), v39 = .bool x39_15 ∧ Aside0 (varint_Reader_Num.j2 kq x3_1 x4_1 (bt x1000_1 (ji12)) x39_15 x1000_1 x1001_1 x1002_1 = some (r1, r2, r3, r4)) ∧ Aside0 (kq ≤ kj1) ∧ Aside0 (IsS121 w0 wc g x1000_1 x1001_1 x1002_1) ∧ Aside0 (KeepBut w wc g none) ∧ Aside0 (Below w0.heap.size w0 wc))
        case first =>
           have H := HC16.out
           clear HC16
           by_cases c18 : x4_1 = 9
           ·rw [if_pos c18] at H
            have c18b0 : (x4_1 == 9) = true := beq_iff_eq.mpr c18
            have c18b1 : (x4_1 != 9) = false := bne_eq_false_iff_eq.mpr c18
            clear c18
            (first | rw [c18b0] | (simp only [i64_w, i32_w]; rw [c18b0]) | skip)
            have H' := Aside0.mk H
            clear H
            go_wp2
            repeat (go_quiet (fail); try go_wp2)
            go_meet
            case rel => exact ⟨_, (decide ((bt x1000_1 (ji12)) > 1)), (by first | rfl | (simp; done) | (simp only [← hji12] <;> (first | rfl | simp)) | (simp [*]; done)), H', ⟨by have := HK1.out; have := HJ1.out; first | omega | exact Nat.le_refl _⟩, ⟨by repeat (first | (with_reducible first | exact HI0.out | apply IsS121.alloc | apply IsS121.drewN | apply IsS121.drew | apply IsS121.set_0 | apply IsS121.set_1 | apply IsS121.set_2) | exact HI0.out)⟩, ⟨by repeat (first | (with_reducible first | exact HK.out | apply KeepBut.set_ | apply keep_drewN | apply keep_drew | apply keep_alloc) | exact HK.out)⟩, ⟨by repeat (first | (with_reducible first | exact HB.out | apply below_alloc | apply pw_below_drewN | apply below_drew1 | refine below_set ?_ (IsS121.ge HI0.out)) | exact HB.out)⟩⟩
           ·rw [if_neg c18] at H
            have c18b0 : (x4_1 == 9) = false := beq_eq_false_iff_ne.mpr c18
            have c18b1 : (x4_1 != 9) = true := bne_iff_ne.mpr c18
            (first | rw [c18b0] | (simp only [i64_w, i32_w]; rw [c18b0]) | skip)
            have H' := Aside0.mk H
            clear H
            go_wp2
            repeat (go_quiet (fail); try go_wp2)
            go_meet
            case rel => exact ⟨_, (false), (by first | rfl | (simp; done) | (simp [*]; done)), H', ⟨by have := HK1.out; have := HJ1.out; first | omega | exact Nat.le_refl _⟩, ⟨by repeat (first | (with_reducible first | exact HI0.out | apply IsS121.alloc | apply IsS121.drewN | apply IsS121.drew | apply IsS121.set_0 | apply IsS121.set_1 | apply IsS121.set_2) | exact HI0.out)⟩, ⟨by repeat (first | (with_reducible first | exact HK.out | apply KeepBut.set_ | apply keep_drewN | apply keep_drew | apply keep_alloc) | exact HK.out)⟩, ⟨by repeat (first | (with_reducible first | exact HB.out | apply below_alloc | apply pw_below_drewN | apply below_drew1 | refine below_set ?_ (IsS121.ge HI0.out)) | exact HB.out)⟩⟩
        case rest =>
           clear HC16
           try clear c1
           try clear p1
           try clear q1
           try clear hx1
           try clear p2
           try clear c3
           try clear c5
           try clear c6
           try clear c6b0
           try clear p6
           try clear c11
           try clear c13
           try clear c13b0
           try clear c14
           try clear c14b0
           try clear p15
           try clear q15
           try clear hx15
           try clear c18
           try clear c18b0
           try clear c18b1
           try clear hcz17_0
           try clear hcz17_1
           try clear hcz17_2
           try clear hcz4_0
           try clear hcz4_1
           try clear hcz4_2
           try clear hcz7_0
           try clear hcz7_1
           try clear hcz7_2
           try clear hcz9_0
           try clear hcz9_1
           try clear hcz9_2
           try clear hfz17_0
           try clear hfz17_1
           try clear hfz17_2
           try clear hfz4_0
           try clear hfz4_1
           try clear hfz4_2
           try clear hfz7_0
           try clear hfz7_1
           try clear hfz7_2
           try clear hfz9_0
           try clear hfz9_1
           try clear hfz9_2
           try clear p15
           try clear p2
           try clear q15
           obtain ⟨kq, x39_15, rfl, HA, HJ15, HI0, HK, HB⟩ := hcut
           cases kq with
           | zero => exact absurd HA.out (by simp [varint_Reader_Num.j2])
           | succ kj15 =>
            have H := HA.out
            clear HA
            simp only [varint_Reader_Num.j2] at H
            by_cases c19 : x39_15 = true
            ·subst c19
             have H1 : ((varint_Reader_spoil.f x1000_1 x1001_1 x1002_1).bind fun bt515 => (some (0, bt515.1, bt515.2.1, bt515.2.2))) = some (r1, r2, r3, r4) := by rw [if_pos rfl] at H; exact H
             clear H
             have H := H1
             clear H1
             replace H := Option.bind_eq_some_iff.mp H
             obtain ⟨⟨t515, t516, t517⟩, A200, H⟩ := H
             replace H : (some (0, t515, t516, t517)) = some (r1, r2, r3, r4) := H
             have A20 := Aside0.mk A200
             clear A200
             simp only [Option.some.injEq, Prod.mk.injEq] at H
             obtain ⟨rfl, rfl, rfl, rfl⟩ := H
             go_wp2_with (first | (go_at_call 88; (with_reducible refine (varint_Reader_spoil.calls g x1000_1 x1001_1 x1002_1 t515 t516 t517 w0 _ ?side1 ?side2 A20.out).mono ?_); (case side1 => repeat (first | (with_reducible first | exact HI0.out | apply IsS121.alloc | apply IsS121.drewN | apply IsS121.drew | apply IsS121.set_0 | apply IsS121.set_1 | apply IsS121.set_2) | exact HI0.out)); (case side2 => repeat (first | (with_reducible first | exact HB.out | apply below_alloc | apply pw_below_drewN | apply below_drew1 | refine below_set ?_ (IsS121.ge HI0.out)) | exact HB.out)); rintro e w21 ⟨rfl, hi, hb, hk⟩; have n0_ := Aside0.mk (KeepBut.trans (by repeat (first | (with_reducible first | exact HK.out | apply KeepBut.set_ | apply keep_drewN | apply keep_drew | apply keep_alloc) | exact HK.out)) hk (.inl rfl)); have n1_ := Aside0.mk (hb); have n2_ := Aside0.mk (hi); clear HK; clear HB; clear HI0; have HK := n0_; have HB := n1_; have HI0 := n2_; clear n0_ n1_ n2_; (try clear hb); (try clear hb2); (try clear hk); (try clear hi); (try clear hge)))
             repeat (go_quiet (first | (go_at_call 88; (with_reducible refine (varint_Reader_spoil.calls g x1000_1 x1001_1 x1002_1 t515 t516 t517 w0 _ ?side1 ?side2 A20.out).mono ?_); (case side1 => repeat (first | (with_reducible first | exact HI0.out | apply IsS121.alloc | apply IsS121.drewN | apply IsS121.drew | apply IsS121.set_0 | apply IsS121.set_1 | apply IsS121.set_2) | exact HI0.out)); (case side2 => repeat (first | (with_reducible first | exact HB.out | apply below_alloc | apply pw_below_drewN | apply below_drew1 | refine below_set ?_ (IsS121.ge HI0.out)) | exact HB.out)); rintro e w21 ⟨rfl, hi, hb, hk⟩; have n0_ := Aside0.mk (KeepBut.trans (by repeat (first | (with_reducible first | exact HK.out | apply KeepBut.set_ | apply keep_drewN | apply keep_drew | apply keep_alloc) | exact HK.out)) hk (.inl rfl)); have n1_ := Aside0.mk (hb); have n2_ := Aside0.mk (hi); clear HK; clear HB; clear HI0; have HK := n0_; have HB := n1_; have HI0 := n2_; clear n0_ n1_ n2_; (try clear hb); (try clear hb2); (try clear hk); (try clear hi); (try clear hge))); try go_wp2_with (first | (go_at_call 88; (with_reducible refine (varint_Reader_spoil.calls g x1000_1 x1001_1 x1002_1 t515 t516 t517 w0 _ ?side1 ?side2 A20.out).mono ?_); (case side1 => repeat (first | (with_reducible first | exact HI0.out | apply IsS121.alloc | apply IsS121.drewN | apply IsS121.drew | apply IsS121.set_0 | apply IsS121.set_1 | apply IsS121.set_2) | exact HI0.out)); (case side2 => repeat (first | (with_reducible first | exact HB.out | apply below_alloc | apply pw_below_drewN | apply below_drew1 | refine below_set ?_ (IsS121.ge HI0.out)) | exact HB.out)); rintro e w21 ⟨rfl, hi, hb, hk⟩; have n0_ := Aside0.mk (KeepBut.trans (by repeat (first | (with_reducible first | exact HK.out | apply KeepBut.set_ | apply keep_drewN | apply keep_drew | apply keep_alloc) | exact HK.out)) hk (.inl rfl)); have n1_ := Aside0.mk (hb); have n2_ := Aside0.mk (hi); clear HK; clear HB; clear HI0; have HK := n0_; have HB := n1_; have HI0 := n2_; clear n0_ n1_ n2_; (try clear hb); (try clear hb2); (try clear hk); (try clear hi); (try clear hge))))
             go_ret
             exact ⟨by first | rfl | (simp [errW_none, errW_some] <;> rfl) | (simp only [← hji12]; first | rfl | (simp [errW_none, errW_some] <;> rfl)) | (simp [*, errW_none, errW_some] <;> rfl), by repeat (first | (with_reducible first | exact HI0.out | apply IsS121.alloc | apply IsS121.drewN | apply IsS121.drew | apply IsS121.set_0 | apply IsS121.set_1 | apply IsS121.set_2) | exact HI0.out), by repeat (first | (with_reducible first | exact HB.out | apply below_alloc | apply pw_below_drewN | apply below_drew1 | refine below_set ?_ (IsS121.ge HI0.out)) | exact HB.out), by repeat (first | (with_reducible first | exact HK.out | apply KeepBut.set_ | apply keep_drewN | apply keep_drew | apply keep_alloc) | exact HK.out)⟩
            ·replace c19 := Bool.eq_false_iff.mpr c19
             subst c19
             have H1 : (if 0 ≤ (wrap64 (7 * x4_1)) then (if (bt x1000_1 (ji12)) < 128 then (if (bt x1000_1 (ji12)) = 0 then (if x4_1 > 0 then ((varint_Reader_spoil.f x1000_1 x1001_1 x1002_1).bind fun bt518 => (some (0, bt518.1, bt518.2.1, bt518.2.2))) else (some (Go.bits .xor .i64 (wrap64 ((Go.bits .or .u64 x3_1 (shl .u64 (IntKind.u64.wrap (Go.bits .andNot .u8 (bt x1000_1 (ji12)) 128)) (wrap64 (7 * x4_1)))) / 2)) (wrap64 (-(wrap64 (Go.bits .and .u64 (Go.bits .or .u64 x3_1 (shl .u64 (IntKind.u64.wrap (Go.bits .andNot .u8 (bt x1000_1 (ji12)) 128)) (wrap64 (7 * x4_1)))) 1)))), x1000_1, wrap64 (x1001_1 + (wrap64 (x4_1 + 1))), x1002_1))) else (some (Go.bits .xor .i64 (wrap64 ((Go.bits .or .u64 x3_1 (shl .u64 (IntKind.u64.wrap (Go.bits .andNot .u8 (bt x1000_1 (ji12)) 128)) (wrap64 (7 * x4_1)))) / 2)) (wrap64 (-(wrap64 (Go.bits .and .u64 (Go.bits .or .u64 x3_1 (shl .u64 (IntKind.u64.wrap (Go.bits .andNot .u8 (bt x1000_1 (ji12)) 128)) (wrap64 (7 * x4_1)))) 1)))), x1000_1, wrap64 (x1001_1 + (wrap64 (x4_1 + 1))), x1002_1))) else (varint_Reader_Num.l0 kj15 (Go.bits .or .u64 x3_1 (shl .u64 (IntKind.u64.wrap (Go.bits .andNot .u8 (bt x1000_1 (ji12)) 128)) (wrap64 (7 * x4_1)))) (wrap64 (x4_1 + 1)) x1000_1 x1001_1 x1002_1)) else (none)) = some (r1, r2, r3, r4) := by rw [if_neg (show ¬ (false = true) by decide)] at H; exact H
             clear H
             have H := H1
             clear H1
             obtain ⟨ji22, hji22⟩ : ∃ j_ : Int, (wrap64 (7 * x4_1)) = j_ := ⟨_, rfl⟩
             replace H : (if 0 ≤ (ji22) then (if (bt x1000_1 (ji12)) < 128 then (if (bt x1000_1 (ji12)) = 0 then (if x4_1 > 0 then ((varint_Reader_spoil.f x1000_1 x1001_1 x1002_1).bind fun bt518 => (some (0, bt518.1, bt518.2.1, bt518.2.2))) else (some (Go.bits .xor .i64 (wrap64 ((Go.bits .or .u64 x3_1 (shl .u64 (IntKind.u64.wrap (Go.bits .andNot .u8 (bt x1000_1 (ji12)) 128)) (ji22))) / 2)) (wrap64 (-(wrap64 (Go.bits .and .u64 (Go.bits .or .u64 x3_1 (shl .u64 (IntKind.u64.wrap (Go.bits .andNot .u8 (bt x1000_1 (ji12)) 128)) (ji22))) 1)))), x1000_1, wrap64 (x1001_1 + (wrap64 (x4_1 + 1))), x1002_1))) else (some (Go.bits .xor .i64 (wrap64 ((Go.bits .or .u64 x3_1 (shl .u64 (IntKind.u64.wrap (Go.bits .andNot .u8 (bt x1000_1 (ji12)) 128)) (ji22))) / 2)) (wrap64 (-(wrap64 (Go.bits .and .u64 (Go.bits .or .u64 x3_1 (shl .u64 (IntKind.u64.wrap (Go.bits .andNot .u8 (bt x1000_1 (ji12)) 128)) (ji22))) 1)))), x1000_1, wrap64 (x1001_1 + (wrap64 (x4_1 + 1))), x1002_1))) else (varint_Reader_Num.l0 kj15 (Go.bits .or .u64 x3_1 (shl .u64 (IntKind.u64.wrap (Go.bits .andNot .u8 (bt x1000_1 (ji12)) 128)) (ji22))) (wrap64 (x4_1 + 1)) x1000_1 x1001_1 x1002_1)) else (none)) = some (r1, r2, r3, r4) := by first | (rw [hji22] at H; exact H) | (simp only [hji22] at H ⊢; exact H)
             have hji22w : (IntKind.i64.wrap (7 * x4_1)) = ji22 := (i64_w _).trans hji22
             (try rw [hji22] at hji12)
             (try rw [hji22] at hji12w)
             by_cases c23 : 0 ≤ (ji22)
             ·rw [if_pos c23] at H
              have c23b0 := eq_true c23
              have c23b1 : decide (0 ≤ (ji22)) = true := decide_eq_true c23
              clear c23
              obtain ⟨ji24, hji24⟩ : ∃ j_ : Int, (shl .u64 (IntKind.u64.wrap (Go.bits .andNot .u8 (bt x1000_1 (ji12)) 128)) (ji22)) = j_ := ⟨_, rfl⟩
              replace H : (if (bt x1000_1 (ji12)) < 128 then (if (bt x1000_1 (ji12)) = 0 then (if x4_1 > 0 then ((varint_Reader_spoil.f x1000_1 x1001_1 x1002_1).bind fun bt518 => (some (0, bt518.1, bt518.2.1, bt518.2.2))) else (some (Go.bits .xor .i64 (wrap64 ((Go.bits .or .u64 x3_1 (ji24)) / 2)) (wrap64 (-(wrap64 (Go.bits .and .u64 (Go.bits .or .u64 x3_1 (ji24)) 1)))), x1000_1, wrap64 (x1001_1 + (wrap64 (x4_1 + 1))), x1002_1))) else (some (Go.bits .xor .i64 (wrap64 ((Go.bits .or .u64 x3_1 (ji24)) / 2)) (wrap64 (-(wrap64 (Go.bits .and .u64 (Go.bits .or .u64 x3_1 (ji24)) 1)))), x1000_1, wrap64 (x1001_1 + (wrap64 (x4_1 + 1))), x1002_1))) else (varint_Reader_Num.l0 kj15 (Go.bits .or .u64 x3_1 (ji24)) (wrap64 (x4_1 + 1)) x1000_1 x1001_1 x1002_1)) = some (r1, r2, r3, r4) := by first | (rw [hji24] at H; exact H) | (simp only [hji24] at H ⊢; exact H)
              have hji24_ : (IntKind.u64.wrap ((IntKind.u64.wrap (Go.bits .andNot .u8 (bt x1000_1 (ji12)) 128)) * 2 ^ min (ji22).toNat 64)) = ji24 := hji24
              have hji24z : (ji22) ≤ 64 → (IntKind.u64.wrap ((IntKind.u64.wrap (Go.bits .andNot .u8 (bt x1000_1 (ji12)) 128)) * 2 ^ (ji22).toNat)) = ji24 := shl_small hji24
              by_cases c25 : (bt x1000_1 (ji12)) < 128
              ·rw [if_pos c25] at H
               have c25b0 : decide ((bt x1000_1 (ji12)) < 128) = true := decide_eq_true c25
               clear c25
               by_cases c26 : (bt x1000_1 (ji12)) = 0
               ·rw [if_pos c26] at H
                have c26b0 : ((bt x1000_1 (ji12)) == 0) = true := beq_iff_eq.mpr c26
                have c26b1 : ((bt x1000_1 (ji12)) != 0) = false := bne_eq_false_iff_eq.mpr c26
                clear c26
                by_cases c27 : x4_1 > 0
                ·rw [if_pos c27] at H
                 have c27b0 : decide (0 < x4_1) = true := decide_eq_true c27
                 clear c27
                 replace H := Option.bind_eq_some_iff.mp H
                 obtain ⟨⟨t518, t519, t520⟩, A280, H⟩ := H
                 replace H : (some (0, t518, t519, t520)) = some (r1, r2, r3, r4) := H
                 have A28 := Aside0.mk A280
                 clear A280
                 simp only [Option.some.injEq, Prod.mk.injEq] at H
                 obtain ⟨rfl, rfl, rfl, rfl⟩ := H
                 go_wp2_with (first | (go_at_call 88; (with_reducible refine (varint_Reader_spoil.calls g x1000_1 x1001_1 x1002_1 t518 t519 t520 w0 _ ?side1 ?side2 A28.out).mono ?_); (case side1 => repeat (first | (with_reducible first | exact HI0.out | apply IsS121.alloc | apply IsS121.drewN | apply IsS121.drew | apply IsS121.set_0 | apply IsS121.set_1 | apply IsS121.set_2) | exact HI0.out)); (case side2 => repeat (first | (with_reducible first | exact HB.out | apply below_alloc | apply pw_below_drewN | apply below_drew1 | refine below_set ?_ (IsS121.ge HI0.out)) | exact HB.out)); rintro e w29 ⟨rfl, hi, hb, hk⟩; have n0_ := Aside0.mk (KeepBut.trans (by repeat (first | (with_reducible first | exact HK.out | apply KeepBut.set_ | apply keep_drewN | apply keep_drew | apply keep_alloc) | exact HK.out)) hk (.inl rfl)); have n1_ := Aside0.mk (hb); have n2_ := Aside0.mk (hi); clear HK; clear HB; clear HI0; have HK := n0_; have HB := n1_; have HI0 := n2_; clear n0_ n1_ n2_; (try clear hb); (try clear hb2); (try clear hk); (try clear hi); (try clear hge)))
                 repeat (go_quiet (first | (go_at_call 88; (with_reducible refine (varint_Reader_spoil.calls g x1000_1 x1001_1 x1002_1 t518 t519 t520 w0 _ ?side1 ?side2 A28.out).mono ?_); (case side1 => repeat (first | (with_reducible first | exact HI0.out | apply IsS121.alloc | apply IsS121.drewN | apply IsS121.drew | apply IsS121.set_0 | apply IsS121.set_1 | apply IsS121.set_2) | exact HI0.out)); (case side2 => repeat (first | (with_reducible first | exact HB.out | apply below_alloc | apply pw_below_drewN | apply below_drew1 | refine below_set ?_ (IsS121.ge HI0.out)) | exact HB.out)); rintro e w29 ⟨rfl, hi, hb, hk⟩; have n0_ := Aside0.mk (KeepBut.trans (by repeat (first | (with_reducible first | exact HK.out | apply KeepBut.set_ | apply keep_drewN | apply keep_drew | apply keep_alloc) | exact HK.out)) hk (.inl rfl)); have n1_ := Aside0.mk (hb); have n2_ := Aside0.mk (hi); clear HK; clear HB; clear HI0; have HK := n0_; have HB := n1_; have HI0 := n2_; clear n0_ n1_ n2_; (try clear hb); (try clear hb2); (try clear hk); (try clear hi); (try clear hge))); try go_wp2_with (first | (go_at_call 88; (with_reducible refine (varint_Reader_spoil.calls g x1000_1 x1001_1 x1002_1 t518 t519 t520 w0 _ ?side1 ?side2 A28.out).mono ?_); (case side1 => repeat (first | (with_reducible first | exact HI0.out | apply IsS121.alloc | apply IsS121.drewN | apply IsS121.drew | apply IsS121.set_0 | apply IsS121.set_1 | apply IsS121.set_2) | exact HI0.out)); (case side2 => repeat (first | (with_reducible first | exact HB.out | apply below_alloc | apply pw_below_drewN | apply below_drew1 | refine below_set ?_ (IsS121.ge HI0.out)) | exact HB.out)); rintro e w29 ⟨rfl, hi, hb, hk⟩; have n0_ := Aside0.mk (KeepBut.trans (by repeat (first | (with_reducible first | exact HK.out | apply KeepBut.set_ | apply keep_drewN | apply keep_drew | apply keep_alloc) | exact HK.out)) hk (.inl rfl)); have n1_ := Aside0.mk (hb); have n2_ := Aside0.mk (hi); clear HK; clear HB; clear HI0; have HK := n0_; have HB := n1_; have HI0 := n2_; clear n0_ n1_ n2_; (try clear hb); (try clear hb2); (try clear hk); (try clear hi); (try clear hge))))
                 go_ret
                 exact ⟨by first | rfl | (simp [errW_none, errW_some] <;> rfl) | (simp only [← hji12, ← hji22, ← hji24]; first | rfl | (simp [errW_none, errW_some] <;> rfl)) | (simp [*, errW_none, errW_some] <;> rfl), by repeat (first | (with_reducible first | exact HI0.out | apply IsS121.alloc | apply IsS121.drewN | apply IsS121.drew | apply IsS121.set_0 | apply IsS121.set_1 | apply IsS121.set_2) | exact HI0.out), by repeat (first | (with_reducible first | exact HB.out | apply below_alloc | apply pw_below_drewN | apply below_drew1 | refine below_set ?_ (IsS121.ge HI0.out)) | exact HB.out), by repeat (first | (with_reducible first | exact HK.out | apply KeepBut.set_ | apply keep_drewN | apply keep_drew | apply keep_alloc) | exact HK.out)⟩
                ·rw [if_neg c27] at H
                 have c27b0 : decide (0 < x4_1) = false := decide_eq_false c27
                 clear c27
                 simp only [Option.some.injEq, Prod.mk.injEq] at H
                 obtain ⟨rfl, rfl, rfl, rfl⟩ := H
                 obtain ⟨HGz30, hgz30⟩ := HI0.out
                 have hcz30_0 := cellS121_0 HGz30
                 have hcz30_1 := cellS121_1 HGz30
                 have hcz30_2 := cellS121_2 HGz30
                 have hfz30_0 := blk_frozen HGz30 0
                 have hfz30_1 := blk_frozen HGz30 1
                 have hfz30_2 := blk_frozen HGz30 2
                 clear HGz30 hgz30
                 go_wp2
                 repeat (go_quiet (fail); try go_wp2)
                 go_ret
                 exact ⟨by first | rfl | (simp [errW_none, errW_some] <;> rfl) | (simp only [← hji12, ← hji22, ← hji24]; first | rfl | (simp [errW_none, errW_some] <;> rfl)) | (simp [*, errW_none, errW_some] <;> rfl), by repeat (first | (with_reducible first | exact HI0.out | apply IsS121.alloc | apply IsS121.drewN | apply IsS121.drew | apply IsS121.set_0 | apply IsS121.set_1 | apply IsS121.set_2) | exact HI0.out), by repeat (first | (with_reducible first | exact HB.out | apply below_alloc | apply pw_below_drewN | apply below_drew1 | refine below_set ?_ (IsS121.ge HI0.out)) | exact HB.out), by repeat (first | (with_reducible first | exact HK.out | apply KeepBut.set_ | apply keep_drewN | apply keep_drew | apply keep_alloc) | exact HK.out)⟩
               ·rw [if_neg c26] at H
                have c26b0 : ((bt x1000_1 (ji12)) == 0) = false := beq_eq_false_iff_ne.mpr c26
                have c26b1 : ((bt x1000_1 (ji12)) != 0) = true := bne_iff_ne.mpr c26
                simp only [Option.some.injEq, Prod.mk.injEq] at H
                obtain ⟨rfl, rfl, rfl, rfl⟩ := H
                obtain ⟨HGz31, hgz31⟩ := HI0.out
                have hcz31_0 := cellS121_0 HGz31
                have hcz31_1 := cellS121_1 HGz31
                have hcz31_2 := cellS121_2 HGz31
                have hfz31_0 := blk_frozen HGz31 0
                have hfz31_1 := blk_frozen HGz31 1
                have hfz31_2 := blk_frozen HGz31 2
                clear HGz31 hgz31
                go_wp2
                repeat (go_quiet (fail); try go_wp2)
                go_ret
                exact ⟨by first | rfl | (simp [errW_none, errW_some] <;> rfl) | (simp only [← hji12, ← hji22, ← hji24]; first | rfl | (simp [errW_none, errW_some] <;> rfl)) | (simp [*, errW_none, errW_some] <;> rfl), by repeat (first | (with_reducible first | exact HI0.out | apply IsS121.alloc | apply IsS121.drewN | apply IsS121.drew | apply IsS121.set_0 | apply IsS121.set_1 | apply IsS121.set_2) | exact HI0.out), by repeat (first | (with_reducible first | exact HB.out | apply below_alloc | apply pw_below_drewN | apply below_drew1 | refine below_set ?_ (IsS121.ge HI0.out)) | exact HB.out), by repeat (first | (with_reducible first | exact HK.out | apply KeepBut.set_ | apply keep_drewN | apply keep_drew | apply keep_alloc) | exact HK.out)⟩
              ·rw [if_neg c25] at H
               have c25b0 : decide ((bt x1000_1 (ji12)) < 128) = false := decide_eq_false c25
               clear c25
               have H' := Aside0.mk H
               clear H
               go_wp2
               repeat (go_quiet (fail); try go_wp2)
               go_roundg kj15
               case measure => have := HK1.out; have := HJ1.out; have := HJ15.out; omega
               case rel => exact ⟨(Go.bits .or .u64 x3_1 (ji24)), (wrap64 (x4_1 + 1)), (x1000_1), (x1001_1), (x1002_1), (by first | rfl | (simp; done) | (simp only [← hji24] <;> (first | rfl | simp)) | (simp [*]; done)), (by first | rfl | (simp; done) | (simp [*]; done)), H', ⟨by have := HK1.out; have := HJ1.out; have := HJ15.out; omega⟩, ⟨by repeat (first | (with_reducible first | exact HI0.out | apply IsS121.alloc | apply IsS121.drewN | apply IsS121.drew | apply IsS121.set_0 | apply IsS121.set_1 | apply IsS121.set_2) | exact HI0.out)⟩, ⟨by repeat (first | (with_reducible first | exact HK.out | apply KeepBut.set_ | apply keep_drewN | apply keep_drew | apply keep_alloc) | exact HK.out)⟩, ⟨by repeat (first | (with_reducible first | exact HB.out | apply below_alloc | apply pw_below_drewN | apply below_drew1 | refine below_set ?_ (IsS121.ge HI0.out)) | exact HB.out)⟩⟩
             ·rw [if_neg c23] at H
              exact absurd H (by simp)
       ·rw [if_neg c14] at H
        exact absurd H (by simp)
      ·rw [if_neg c13] at H
       exact absurd H (by simp)
     ·replace c11 := Bool.eq_false_iff.mpr c11
      subst c11
      have H1 : ((varint_Reader_spoil.f x1000_1 x1001_1 x1002_1).bind fun bt512 => (some (0, bt512.1, bt512.2.1, bt512.2.2))) = some (r1, r2, r3, r4) := by rw [if_neg (show ¬ (false = true) by decide)] at H; exact H
      clear H
      have H := H1
      clear H1
      replace H := Option.bind_eq_some_iff.mp H
      obtain ⟨⟨t512, t513, t514⟩, A320, H⟩ := H
      replace H : (some (0, t512, t513, t514)) = some (r1, r2, r3, r4) := H
      have A32 := Aside0.mk A320
      clear A320
      simp only [Option.some.injEq, Prod.mk.injEq] at H
      obtain ⟨rfl, rfl, rfl, rfl⟩ := H
      go_wp2_with (first | (go_at_call 88; (with_reducible refine (varint_Reader_spoil.calls g x1000_1 x1001_1 x1002_1 t512 t513 t514 w0 _ ?side1 ?side2 A32.out).mono ?_); (case side1 => repeat (first | (with_reducible first | exact HI0.out | apply IsS121.alloc | apply IsS121.drewN | apply IsS121.drew | apply IsS121.set_0 | apply IsS121.set_1 | apply IsS121.set_2) | exact HI0.out)); (case side2 => repeat (first | (with_reducible first | exact HB.out | apply below_alloc | apply pw_below_drewN | apply below_drew1 | refine below_set ?_ (IsS121.ge HI0.out)) | exact HB.out)); rintro e w33 ⟨rfl, hi, hb, hk⟩; have n0_ := Aside0.mk (KeepBut.trans (by repeat (first | (with_reducible first | exact HK.out | apply KeepBut.set_ | apply keep_drewN | apply keep_drew | apply keep_alloc) | exact HK.out)) hk (.inl rfl)); have n1_ := Aside0.mk (hb); have n2_ := Aside0.mk (hi); clear HK; clear HB; clear HI0; have HK := n0_; have HB := n1_; have HI0 := n2_; clear n0_ n1_ n2_; (try clear hb); (try clear hb2); (try clear hk); (try clear hi); (try clear hge)))
      repeat (go_quiet (first | (go_at_call 88; (with_reducible refine (varint_Reader_spoil.calls g x1000_1 x1001_1 x1002_1 t512 t513 t514 w0 _ ?side1 ?side2 A32.out).mono ?_); (case side1 => repeat (first | (with_reducible first | exact HI0.out | apply IsS121.alloc | apply IsS121.drewN | apply IsS121.drew | apply IsS121.set_0 | apply IsS121.set_1 | apply IsS121.set_2) | exact HI0.out)); (case side2 => repeat (first | (with_reducible first | exact HB.out | apply below_alloc | apply pw_below_drewN | apply below_drew1 | refine below_set ?_ (IsS121.ge HI0.out)) | exact HB.out)); rintro e w33 ⟨rfl, hi, hb, hk⟩; have n0_ := Aside0.mk (KeepBut.trans (by repeat (first | (with_reducible first | exact HK.out | apply KeepBut.set_ | apply keep_drewN | apply keep_drew | apply keep_alloc) | exact HK.out)) hk (.inl rfl)); have n1_ := Aside0.mk (hb); have n2_ := Aside0.mk (hi); clear HK; clear HB; clear HI0; have HK := n0_; have HB := n1_; have HI0 := n2_; clear n0_ n1_ n2_; (try clear hb); (try clear hb2); (try clear hk); (try clear hi); (try clear hge))); try go_wp2_with (first | (go_at_call 88; (with_reducible refine (varint_Reader_spoil.calls g x1000_1 x1001_1 x1002_1 t512 t513 t514 w0 _ ?side1 ?side2 A32.out).mono ?_); (case side1 => repeat (first | (with_reducible first | exact HI0.out | apply IsS121.alloc | apply IsS121.drewN | apply IsS121.drew | apply IsS121.set_0 | apply IsS121.set_1 | apply IsS121.set_2) | exact HI0.out)); (case side2 => repeat (first | (with_reducible first | exact HB.out | apply below_alloc | apply pw_below_drewN | apply below_drew1 | refine below_set ?_ (IsS121.ge HI0.out)) | exact HB.out)); rintro e w33 ⟨rfl, hi, hb, hk⟩; have n0_ := Aside0.mk (KeepBut.trans (by repeat (first | (with_reducible first | exact HK.out | apply KeepBut.set_ | apply keep_drewN | apply keep_drew | apply keep_alloc) | exact HK.out)) hk (.inl rfl)); have n1_ := Aside0.mk (hb); have n2_ := Aside0.mk (hi); clear HK; clear HB; clear HI0; have HK := n0_; have HB := n1_; have HI0 := n2_; clear n0_ n1_ n2_; (try clear hb); (try clear hb2); (try clear hk); (try clear hi); (try clear hge))))
      go_ret
      exact ⟨by first | rfl | (simp [errW_none, errW_some] <;> rfl) | (simp [*, errW_none, errW_some] <;> rfl), by repeat (first | (with_reducible first | exact HI0.out | apply IsS121.alloc | apply IsS121.drewN | apply IsS121.drew | apply IsS121.set_0 | apply IsS121.set_1 | apply IsS121.set_2) | exact HI0.out), by repeat (first | (with_reducible first | exact HB.out | apply below_alloc | apply pw_below_drewN | apply below_drew1 | refine below_set ?_ (IsS121.ge HI0.out)) | exact HB.out), by repeat (first | (with_reducible first | exact HK.out | apply KeepBut.set_ | apply keep_drewN | apply keep_drew | apply keep_alloc) | exact HK.out)⟩

end Go.Proofs.YtldlkbjbfgieeaaGreatDoor.Q
