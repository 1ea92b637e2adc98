/- thin -/
-- Written by a program of this session (mp.py).
import Derived.Test.YtldlkbjbfgieeaaGreatDoorMo
import Derived.Test.YtldlkbjbfgieeaaGreatDoorQx0
import Derived.Test.YtldlkbjbfgieeaaGreatDoorQx89
namespace Go.Proofs.YtldlkbjbfgieeaaGreatDoor.Q
open Go.RowKit Go.Proofs.YtldlkbjbfgieeaaGreatDoorW.PrintWords Go.Proofs.YtldlkbjbfgieeaaGreatDoorW.PrintLast Mo
attribute [local go_sem] max2_int min2_int max_two min_two max_three min_three max_four min_four   -- for this text's walks alone
open Giv Gn Ll Lb
set_option linter.unusedVariables false
set_option linter.unusedSimpArgs false

/-! ### billetlaw04_Labels: function 80 -/
mutual
def billetlaw04_Labels.l0 : Nat → List Int → List ByteArray → ByteArray → Int → Int → Option (ByteArray)
 | 0, _, _, _, _, _ => none
 | k + 1, x0, x3, x4, x5, x6 => if x6 < 8 then (billetlaw04_Labels.l1 k x0 x3 x4 x5 x6 0) else (some x4)
def billetlaw04_Labels.l1 : Nat → List Int → List ByteArray → ByteArray → Int → Int → Int → Option (ByteArray)
 | 0, _, _, _, _, _, _ => none
 | k + 1, x0, x3, x4, x5, x6, x7 => if x7 < (x0.length : Int) then (billetlaw04_Labels.j2 k x0 x3 x4 x5 x6 x7 (decide (x7 < 40))) else (billetlaw04_Labels.j2 k x0 x3 x4 x5 x6 x7 false)
def billetlaw04_Labels.j2 : Nat → List Int → List ByteArray → ByteArray → Int → Int → Int → Bool → Option (ByteArray)
 | 0, _, _, _, _, _, _, _ => none
 | k + 1, x0, x3, x4, x5, x6, x7, x20 => if x20 = true then (if 0 ≤ x7 then (if x7 < (x0.length : Int) then ((billetlaw04_pick.f (rd x0 x7) 8).bind fun t234 => (if t234 = x6 then (billetlaw04_Labels.j3 k x0 x3 x4 x5 x6 x7 (decide (x5 < 4))) else (billetlaw04_Labels.j3 k x0 x3 x4 x5 x6 x7 false))) else (none)) else (none)) else (billetlaw04_Labels.l0 k x0 x3 x4 x5 (wrap64 (x6 + 1)))
def billetlaw04_Labels.j3 : Nat → List Int → List ByteArray → ByteArray → Int → Int → Int → Bool → Option (ByteArray)
 | 0, _, _, _, _, _, _, _ => none
 | k + 1, x0, x3, x4, x5, x6, x7, x33 => if x33 = true then (if x5 > 0 then (if x4.size + 1 ≤ 9223372036854775807 then (if 0 ≤ x6 then (if x6 < (x3.length : Int) then (if (x4 ++ (⟨#[44]⟩ : ByteArray)).size + (rdOf ByteArray.empty x3 x6).size ≤ 9223372036854775807 then (if ((x4 ++ (⟨#[44]⟩ : ByteArray)) ++ (rdOf ByteArray.empty x3 x6)).size + 1 ≤ 9223372036854775807 then (if 0 ≤ x7 then (if x7 < (x0.length : Int) then ((billetlaw04_pick.f (rd x0 x7) 64).bind fun t237 => ((billetlaw04_Name.f (wrap64 (Int.tdiv t237 8))).bind fun t238 => (if (((x4 ++ (⟨#[44]⟩ : ByteArray)) ++ (rdOf ByteArray.empty x3 x6)) ++ (⟨#[61]⟩ : ByteArray)).size + t238.size ≤ 9223372036854775807 then (billetlaw04_Labels.l0 k x0 x3 ((((x4 ++ (⟨#[44]⟩ : ByteArray)) ++ (rdOf ByteArray.empty x3 x6)) ++ (⟨#[61]⟩ : ByteArray)) ++ t238) (wrap64 (x5 + 1)) (wrap64 (x6 + 1))) else (none)))) else (none)) else (none)) else (none)) else (none)) else (none)) else (none)) else (none)) else (if 0 ≤ x6 then (if x6 < (x3.length : Int) then (if x4.size + (rdOf ByteArray.empty x3 x6).size ≤ 9223372036854775807 then (if (x4 ++ (rdOf ByteArray.empty x3 x6)).size + 1 ≤ 9223372036854775807 then (if 0 ≤ x7 then (if x7 < (x0.length : Int) then ((billetlaw04_pick.f (rd x0 x7) 64).bind fun t241 => ((billetlaw04_Name.f (wrap64 (Int.tdiv t241 8))).bind fun t242 => (if ((x4 ++ (rdOf ByteArray.empty x3 x6)) ++ (⟨#[61]⟩ : ByteArray)).size + t242.size ≤ 9223372036854775807 then (billetlaw04_Labels.l0 k x0 x3 (((x4 ++ (rdOf ByteArray.empty x3 x6)) ++ (⟨#[61]⟩ : ByteArray)) ++ t242) (wrap64 (x5 + 1)) (wrap64 (x6 + 1))) else (none)))) else (none)) else (none)) else (none)) else (none)) else (none)) else (none))) else (billetlaw04_Labels.l1 k x0 x3 x4 x5 x6 (wrap64 (x7 + 1)))
end
def billetlaw04_Labels.f (k : Nat) (l0 : List Int) : Option (ByteArray) := billetlaw04_Labels.l0 k l0 (([(⟨#[97]⟩ : ByteArray), (⟨#[97, 98]⟩ : ByteArray), (⟨#[97, 98, 99, 100, 101, 102, 103, 104, 105, 106, 107, 108]⟩ : ByteArray), (⟨#[98]⟩ : ByteArray), (⟨#[100, 105, 115, 107]⟩ : ByteArray), (⟨#[103, 112, 117]⟩ : ByteArray), (⟨#[120, 57]⟩ : ByteArray), (⟨#[122, 111, 110, 101]⟩ : ByteArray)] : List ByteArray)) (⟨#[]⟩ : ByteArray) 0 0
def billetlaw04_Labels.T13 : Bool × List (List Nat × List Nat) := (true, [([], []), ([], []), ([], []), ([1, 2], [1, 2]), ([3], [3]), ([0, 4], [0, 4]), ([5], [5]), ([], []), ([], []), ([7, 8], [7, 8]), ([9], [9]), ([10], [10]), ([11], [11]), ([12, 11], [12]), ([6, 13], [6, 13]), ([14, 13, 0, 1, 2, 3, 4, 5, 6, 7, 8, 9, 10, 11, 12, 13, 14], [0, 14])])
def billetlaw04_Labels.B13 : List Nat := [0, 0, 0, 6, 14, 31, 63, 0, 0, 384, 896, 1920, 3968, 8064, 16383, 32767]
theorem billetlaw04_Labels.tab13 : rtab .any (opsOf Tryz.f80 13) = billetlaw04_Labels.T13 := by kernel_rfl
theorem billetlaw04_Labels.bits13 : waitsOk billetlaw04_Labels.T13.2 billetlaw04_Labels.B13 = true := by kernel_rfl
set_option maxHeartbeats 8000000 in
set_option maxRecDepth 100000 in
theorem billetlaw04_Labels.calls (k : Nat) (A0 : Option Addr) (c0 : Nat) (l0 : List Int) (r : ByteArray) (w : World) (hr0 : Kd.C (Kd.int .i64) w A0 l0.length l0) (hc0 : l0.length ≤ c0) (h : billetlaw04_Labels.f k l0 = some r) :
 Calls Tryz.prog 80 #[.slice A0 l0.length c0] w fun e w' => e = .returned (.string r) ∧ Below w.heap.size w w' := by
 have HR0 := Aside0.mk hr0
 have HC0 := Aside0.mk hc0
 clear hr0 hc0
 have HB := Aside0.mk (Below.refl w.heap.size w)
 have H : (billetlaw04_Labels.l0 k l0 (([(⟨#[97]⟩ : ByteArray), (⟨#[97, 98]⟩ : ByteArray), (⟨#[97, 98, 99, 100, 101, 102, 103, 104, 105, 106, 107, 108]⟩ : ByteArray), (⟨#[98]⟩ : ByteArray), (⟨#[100, 105, 115, 107]⟩ : ByteArray), (⟨#[103, 112, 117]⟩ : ByteArray), (⟨#[120, 57]⟩ : ByteArray), (⟨#[122, 111, 110, 101]⟩ : ByteArray)] : List ByteArray)) (⟨#[]⟩ : ByteArray) 0 0) = some r := h
 clear h
 obtain ⟨y230, hy230⟩ : ∃ y_ : List ByteArray, y_ = (([(⟨#[97]⟩ : ByteArray), (⟨#[97, 98]⟩ : ByteArray), (⟨#[97, 98, 99, 100, 101, 102, 103, 104, 105, 106, 107, 108]⟩ : ByteArray), (⟨#[98]⟩ : ByteArray), (⟨#[100, 105, 115, 107]⟩ : ByteArray), (⟨#[103, 112, 117]⟩ : ByteArray), (⟨#[120, 57]⟩ : ByteArray), (⟨#[122, 111, 110, 101]⟩ : ByteArray)] : List ByteArray)) := ⟨_, rfl⟩
 replace H : (billetlaw04_Labels.l0 k l0 y230 (⟨#[]⟩ : ByteArray) 0 0) = some r := by first | (rw [hy230]; with_reducible exact H) | (have H2_ := (Option.bind_some _ _).symm.trans H; rw [hy230]; with_reducible exact H2_) | (have H2_ := (Option.bind_some _ _).symm.trans H; with_reducible exact H2_) | with_reducible exact H | (rw [hy230]; exact H) | exact H
 have Ny230 := Aside0.mk hy230
 clear hy230
 have H' := Aside0.mk H
 clear H
 go_enter Tryz.func80, Tryz.ntmps80
 go_wp2_with (first | ((with_reducible refine gate_dst (N := 8) rfl ?_); refine Kd.R_lit Kd.string _ 9 ?hg (N := 8) ?hd (xs := ([(⟨#[97]⟩ : ByteArray), (⟨#[97, 98]⟩ : ByteArray), (⟨#[97, 98, 99, 100, 101, 102, 103, 104, 105, 106, 107, 108]⟩ : ByteArray), (⟨#[98]⟩ : ByteArray), (⟨#[100, 105, 115, 107]⟩ : ByteArray), (⟨#[103, 112, 117]⟩ : ByteArray), (⟨#[120, 57]⟩ : ByteArray), (⟨#[122, 111, 110, 101]⟩ : ByteArray)] : List ByteArray)) (inner := [.string (⟨#[97]⟩ : ByteArray), .string (⟨#[97, 98]⟩ : ByteArray), .string (⟨#[97, 98, 99, 100, 101, 102, 103, 104, 105, 106, 107, 108]⟩ : ByteArray), .string (⟨#[98]⟩ : ByteArray), .string (⟨#[100, 105, 115, 107]⟩ : ByteArray), .string (⟨#[103, 112, 117]⟩ : ByteArray), .string (⟨#[120, 57]⟩ : ByteArray), .string (⟨#[122, 111, 110, 101]⟩ : ByteArray)]) (ok := fun _ => True) (okp := fun _ => True) ?hr ?hp (fun _ hk => hk) trivial (Below.refl _ _) (Nat.le_refl _) (by simp) ?_; (case hd => rfl); (case hg => rfl); (case hr => first | (go_simp; done) | (go_simp; rfl)); (case hp => exact (Reps.one (show Kd.M Kd.string _ _ _ (⟨#[97]⟩ : ByteArray) [.string (⟨#[97]⟩ : ByteArray)] from rfl) (Reps.one (show Kd.M Kd.string _ _ _ (⟨#[97, 98]⟩ : ByteArray) [.string (⟨#[97, 98]⟩ : ByteArray)] from rfl) (Reps.one (show Kd.M Kd.string _ _ _ (⟨#[97, 98, 99, 100, 101, 102, 103, 104, 105, 106, 107, 108]⟩ : ByteArray) [.string (⟨#[97, 98, 99, 100, 101, 102, 103, 104, 105, 106, 107, 108]⟩ : ByteArray)] from rfl) (Reps.one (show Kd.M Kd.string _ _ _ (⟨#[98]⟩ : ByteArray) [.string (⟨#[98]⟩ : ByteArray)] from rfl) (Reps.one (show Kd.M Kd.string _ _ _ (⟨#[100, 105, 115, 107]⟩ : ByteArray) [.string (⟨#[100, 105, 115, 107]⟩ : ByteArray)] from rfl) (Reps.one (show Kd.M Kd.string _ _ _ (⟨#[103, 112, 117]⟩ : ByteArray) [.string (⟨#[103, 112, 117]⟩ : ByteArray)] from rfl) (Reps.one (show Kd.M Kd.string _ _ _ (⟨#[120, 57]⟩ : ByteArray) [.string (⟨#[120, 57]⟩ : ByteArray)] from rfl) (Reps.one (show Kd.M Kd.string _ _ _ (⟨#[122, 111, 110, 101]⟩ : ByteArray) [.string (⟨#[122, 111, 110, 101]⟩ : ByteArray)] from rfl) (Reps.none _ _)))))))))); intro v231 w2 ho3 hb hg_ hnew_; clear hg_ hnew_; (first | rw [← Ny230.out] at ho3 | (simp only [Int.reduceToNat] at ho3; rw [← Ny230.out] at ho3)); have n0_ := Aside0.mk (Kd.R_lower ho3 (below_size (by repeat (first | (with_reducible first | exact HB.out | apply below_alloc | apply pw_below_drewN | apply below_drew1) | exact HB.out)))); have n1_ := Aside0.mk (below_step (by repeat (first | (with_reducible first | exact HB.out | apply below_alloc | apply pw_below_drewN | apply below_drew1) | exact HB.out)) hb); clear HB; have HO232 := n0_; have HB := n1_; clear n0_ n1_; clear hb ho3))
 go_loopg [4, 5, 6] k (fun kq v4 v5 v6 w' => ∃ (x4_1 : ByteArray) (x5_1 : Int) (x6_1 : Int), v4 = .string x4_1 ∧ v5 = .int .i64 x5_1 ∧ v6 = .int .i64 x6_1 ∧ Aside0 (billetlaw04_Labels.l0 kq l0 y230 x4_1 x5_1 x6_1 = some r) ∧ Aside0 (kq ≤ k) ∧ Aside0 (Kd.R Kd.string 9 w' w.heap.size (fun _ => True) v231 y230) ∧ Aside0 (Below w.heap.size w w'))
 case atStart => exact ⟨((⟨#[]⟩ : ByteArray)), (0), (0), (by first | rfl | (simp; done) | (simp [*]; done)), (by first | rfl | (simp; done) | (simp [*]; done)), (by first | rfl | (simp; done) | (simp [*]; done)), H', ⟨Nat.le_refl _⟩, ⟨by (with_reducible repeat (first | apply Kd.R_alloc | apply Kd.R_drewN | apply Kd.R_drew)); exact HO232.out⟩, ⟨by repeat (first | (with_reducible first | exact HB.out | apply below_alloc | apply pw_below_drewN | apply below_drew1) | exact HB.out)⟩⟩
 case round =>
  clear H'
  try clear p2
  obtain ⟨x4_1, x5_1, x6_1, rfl, rfl, rfl, HA, HK1, HO_3, HB⟩ := hrel
  cases gk with
  | zero => exact absurd HA.out (by simp [billetlaw04_Labels.l0])
  | succ k1 =>
   have H := HA.out
   clear HA
   simp only [billetlaw04_Labels.l0] at H
   by_cases c4 : x6_1 < 8
   ·rw [if_pos c4] at H
    have c4b0 : decide (x6_1 < 8) = true := decide_eq_true c4
    clear c4
    have H' := Aside0.mk H
    clear H
    go_wp2
    go_loopg [4, 5, 7] k1 (fun kq v4 v5 v7 w' => ∃ (x4_2 : ByteArray) (x5_2 : Int) (x7_2 : Int), v4 = .string x4_2 ∧ v5 = .int .i64 x5_2 ∧ v7 = .int .i64 x7_2 ∧ Aside0 (billetlaw04_Labels.l1 kq l0 y230 x4_2 x5_2 x6_1 x7_2 = some r) ∧ Aside0 (kq ≤ k1) ∧ Aside0 (Kd.R Kd.string 9 w' w.heap.size (fun _ => True) v231 y230) ∧ Aside0 (Below w.heap.size w w'))
    case atStart => exact ⟨(x4_1), (x5_1), (0), (by first | rfl | (simp; done) | (simp [*]; done)), (by first | rfl | (simp; done) | (simp [*]; done)), (by first | rfl | (simp; done) | (simp [*]; done)), H', ⟨Nat.le_refl _⟩, ⟨by (with_reducible repeat (first | apply Kd.R_alloc | apply Kd.R_drewN | apply Kd.R_drew)); exact HO_3.out⟩, ⟨by repeat (first | (with_reducible first | exact HB.out | apply below_alloc | apply pw_below_drewN | apply below_drew1) | exact HB.out)⟩⟩
    case round =>
     clear H'
     try clear p2
     try clear c4
     try clear c4b0
     try clear p2
     obtain ⟨x4_2, x5_2, x7_2, rfl, rfl, rfl, HA, HK2, HO_3, HB⟩ := hrel
     cases gk with
     | zero => exact absurd HA.out (by simp [billetlaw04_Labels.l1])
     | succ k2 =>
        have H := HA.out
        clear HA
        simp only [billetlaw04_Labels.l1] at H
        have HC5 := Aside0.mk H
        clear H
        go_upto_region 8 with (fail)
        go_cut [20] (fun v20 wc => ∃ (kq : Nat) (x20_4 : Bool), v20 = .bool x20_4 ∧ Aside0 (billetlaw04_Labels.j2 kq l0 y230 x4_2 x5_2 x6_1 x7_2 x20_4 = some r) ∧ Aside0 (kq ≤ k2) ∧ Aside0 (Kd.R Kd.string 9 wc w.heap.size (fun _ => True) v231 y230) ∧ Aside0 (Below w.heap.size w wc))
        case first =>
         have H := HC5.out
         clear HC5
         by_cases c6 : x7_2 < (l0.length : Int)
         ·rw [if_pos c6] at H
          have c6b0 : decide (x7_2 < (l0.length : Int)) = true := decide_eq_true c6
          clear c6
          (first | rw [c6b0] | (simp only [i64_w, i32_w]; rw [c6b0]) | skip)
          have H' := Aside0.mk H
          clear H
          go_wp2
          go_meet
          case rel => exact ⟨_, (decide (x7_2 < 40)), (by first | rfl | (simp; done) | (simp [*]; done)), H', ⟨by have := HK1.out; have := HK2.out; first | omega | exact Nat.le_refl _⟩, ⟨by (with_reducible repeat (first | apply Kd.R_alloc | apply Kd.R_drewN | apply Kd.R_drew)); exact HO_3.out⟩, ⟨by repeat (first | (with_reducible first | exact HB.out | apply below_alloc | apply pw_below_drewN | apply below_drew1) | exact HB.out)⟩⟩
         ·rw [if_neg c6] at H
          have c6b0 : decide (x7_2 < (l0.length : Int)) = false := decide_eq_false c6
          clear c6
          (first | rw [c6b0] | (simp only [i64_w, i32_w]; rw [c6b0]) | skip)
          have H' := Aside0.mk H
          clear H
          go_wp2
          go_meet
          case rel => exact ⟨_, (false), (by first | rfl | (simp; done) | (simp [*]; done)), H', ⟨by have := HK1.out; have := HK2.out; first | omega | exact Nat.le_refl _⟩, ⟨by (with_reducible repeat (first | apply Kd.R_alloc | apply Kd.R_drewN | apply Kd.R_drew)); exact HO_3.out⟩, ⟨by repeat (first | (with_reducible first | exact HB.out | apply below_alloc | apply pw_below_drewN | apply below_drew1) | exact HB.out)⟩⟩
        case rest =>
         clear HC5
         try clear p2
         try clear c4
         try clear c4b0
         try clear c6
         try clear c6b0
         try clear p2
         obtain ⟨kq, x20_4, rfl, HA, HJ4, HO_3, HB⟩ := hcut
         cases kq with
         | zero => exact absurd HA.out (by simp [billetlaw04_Labels.j2])
         | succ kj4 =>
          have H := HA.out
          clear HA
          simp only [billetlaw04_Labels.j2] at H
          by_cases c7 : x20_4 = true
          ·subst c7
           have H1 : (if 0 ≤ x7_2 then (if x7_2 < (l0.length : Int) then ((billetlaw04_pick.f (rd l0 x7_2) 8).bind fun t234 => (if t234 = x6_1 then (billetlaw04_Labels.j3 kj4 l0 y230 x4_2 x5_2 x6_1 x7_2 (decide (x5_2 < 4))) else (billetlaw04_Labels.j3 kj4 l0 y230 x4_2 x5_2 x6_1 x7_2 false))) else (none)) else (none)) = some r := by rw [if_pos rfl] at H; exact H
           clear H
           have H := H1
           clear H1
           have HC8 := Aside0.mk H
           clear H
           go_upto_region 10 with (fail)
           go_cut [33] (fun v33 wc => ∃ (kq : Nat) (x33_7 : Bool), v33 = .bool x33_7 ∧ Aside0 (billetlaw04_Labels.j3 kq l0 y230 x4_2 x5_2 x6_1 x7_2 x33_7 = some r) ∧ Aside0 (kq ≤ kj4) ∧ Aside0 (Kd.R Kd.string 9 wc w.heap.size (fun _ => True) v231 y230) ∧ Aside0 (Below w.heap.size w wc))
           case first =>
            have H := HC8.out
            clear HC8
            by_cases c9 : 0 ≤ x7_2
            ·rw [if_pos c9] at H
             have c9b0 : decide (0 ≤ x7_2) = true := decide_eq_true c9
             clear c9
             (first | rw [c9b0] | (simp only [i64_w, i32_w]; rw [c9b0]) | skip)
             by_cases c10 : x7_2 < (l0.length : Int)
             ·rw [if_pos c10] at H
              have c10b0 : decide (x7_2 < (l0.length : Int)) = true := decide_eq_true c10
              clear c10
              replace H := Option.bind_eq_some_iff.mp H
              obtain ⟨t234, A110, H⟩ := H
              replace H : (if t234 = x6_1 then (billetlaw04_Labels.j3 kj4 l0 y230 x4_2 x5_2 x6_1 x7_2 (decide (x5_2 < 4))) else (billetlaw04_Labels.j3 kj4 l0 y230 x4_2 x5_2 x6_1 x7_2 false)) = some r := H
              have A11 := Aside0.mk A110
              clear A110
              by_cases c12 : t234 = x6_1
              ·rw [if_pos c12] at H
               have c12b0 : (t234 == x6_1) = true := beq_iff_eq.mpr c12
               have c12b1 : (t234 != x6_1) = false := bne_eq_false_iff_eq.mpr c12
               clear c12
               have H' := Aside0.mk H
               clear H
               have p233 : 0 ≤ (x7_2 : Int) := of_decide_eq_true (by first | (with_reducible assumption) | assumption)
               have q233 : x7_2 < (l0.length : Int) := of_decide_eq_true (by first | (with_reducible assumption) | assumption)
               obtain ⟨ad233, e233, hx233_0⟩ := Kd.at_int HR0.out x7_2 p233 q233
               cases e233
               replace hx233_0 := (HB.out.cell (World.block_lt_of_cell? w _ hx233_0)).trans hx233_0
               replace p233 := eq_true p233
               (try replace p233z := eq_true p233z)
               replace q233 := eq_true q233
               (try replace q233z := eq_true q233z)
               go_wp2_with (first | ((with_reducible refine gate_callee (f := 100) rfl ?_); refine goesL_ (some 27) rfl rfl Tryz.func100 (by kernel_rfl) rfl #[.int .i64 (rd l0 x7_2), .int .i64 8] rfl (by (try simp only [List.map_toArray, List.map_cons, List.map_nil]); first | done | rfl | (simp only [List.length_drop, List.length_take]; rfl)) ?_; (with_reducible refine (billetlaw04_pick.calls (rd l0 x7_2) 8 t234 _ A11.out).mono ?_); rintro e w' ⟨rfl, ⟨nd, rfl⟩⟩; refine ⟨_, rfl, ?_⟩))
               go_meet
               case rel => exact ⟨_, (decide (x5_2 < 4)), (by first | rfl | (simp; done) | (simp [*]; done)), H', ⟨by have := HK1.out; have := HK2.out; have := HJ4.out; first | omega | exact Nat.le_refl _⟩, ⟨by (with_reducible repeat (first | apply Kd.R_alloc | apply Kd.R_drewN | apply Kd.R_drew)); exact HO_3.out⟩, ⟨by repeat (first | (with_reducible first | exact HB.out | apply below_alloc | apply pw_below_drewN | apply below_drew1) | exact HB.out)⟩⟩
              ·rw [if_neg c12] at H
               have c12b0 : (t234 == x6_1) = false := beq_eq_false_iff_ne.mpr c12
               have c12b1 : (t234 != x6_1) = true := bne_iff_ne.mpr c12
               have H' := Aside0.mk H
               clear H
               have p233 : 0 ≤ (x7_2 : Int) := of_decide_eq_true (by first | (with_reducible assumption) | assumption)
               have q233 : x7_2 < (l0.length : Int) := of_decide_eq_true (by first | (with_reducible assumption) | assumption)
               obtain ⟨ad233, e233, hx233_0⟩ := Kd.at_int HR0.out x7_2 p233 q233
               cases e233
               replace hx233_0 := (HB.out.cell (World.block_lt_of_cell? w _ hx233_0)).trans hx233_0
               replace p233 := eq_true p233
               (try replace p233z := eq_true p233z)
               replace q233 := eq_true q233
               (try replace q233z := eq_true q233z)
               go_wp2_with (first | ((with_reducible refine gate_callee (f := 100) rfl ?_); refine goesL_ (some 27) rfl rfl Tryz.func100 (by kernel_rfl) rfl #[.int .i64 (rd l0 x7_2), .int .i64 8] rfl (by (try simp only [List.map_toArray, List.map_cons, List.map_nil]); first | done | rfl | (simp only [List.length_drop, List.length_take]; rfl)) ?_; (with_reducible refine (billetlaw04_pick.calls (rd l0 x7_2) 8 t234 _ A11.out).mono ?_); rintro e w' ⟨rfl, ⟨nd, rfl⟩⟩; refine ⟨_, rfl, ?_⟩))
               go_meet
               case rel => exact ⟨_, (false), (by first | rfl | (simp; done) | (simp [*]; done)), H', ⟨by have := HK1.out; have := HK2.out; have := HJ4.out; first | omega | exact Nat.le_refl _⟩, ⟨by (with_reducible repeat (first | apply Kd.R_alloc | apply Kd.R_drewN | apply Kd.R_drew)); exact HO_3.out⟩, ⟨by repeat (first | (with_reducible first | exact HB.out | apply below_alloc | apply pw_below_drewN | apply below_drew1) | exact HB.out)⟩⟩
             ·rw [if_neg c10] at H
              exact absurd H (by simp)
            ·rw [if_neg c9] at H
             exact absurd H (by simp)
           case rest =>
            clear HC8
            try clear c1
            try clear p2
            try clear q2
            try clear hx2
            try clear c4
            try clear c4b0
            try clear c6
            try clear c6b0
            try clear c7
            try clear c8
            try clear c9
            try clear c9b0
            try clear c10
            try clear c10b0
            try clear c12
            try clear c12b0
            try clear c12b1
            try clear hx233_0
            try clear p2
            try clear p233
            try clear q233
            obtain ⟨kq, x33_7, rfl, HA, HJ7, HO_3, HB⟩ := hcut
            cases kq with
            | zero => exact absurd HA.out (by simp [billetlaw04_Labels.j3])
            | succ kj7 =>
             have H := HA.out
             clear HA
             simp only [billetlaw04_Labels.j3] at H
             by_cases c13 : x33_7 = true
             ·subst c13
              have H1 : (if x5_2 > 0 then (if x4_2.size + 1 ≤ 9223372036854775807 then (if 0 ≤ x6_1 then (if x6_1 < (y230.length : Int) then (if (x4_2 ++ (⟨#[44]⟩ : ByteArray)).size + (rdOf ByteArray.empty y230 x6_1).size ≤ 9223372036854775807 then (if ((x4_2 ++ (⟨#[44]⟩ : ByteArray)) ++ (rdOf ByteArray.empty y230 x6_1)).size + 1 ≤ 9223372036854775807 then (if 0 ≤ x7_2 then (if x7_2 < (l0.length : Int) then ((billetlaw04_pick.f (rd l0 x7_2) 64).bind fun t237 => ((billetlaw04_Name.f (wrap64 (Int.tdiv t237 8))).bind fun t238 => (if (((x4_2 ++ (⟨#[44]⟩ : ByteArray)) ++ (rdOf ByteArray.empty y230 x6_1)) ++ (⟨#[61]⟩ : ByteArray)).size + t238.size ≤ 9223372036854775807 then (billetlaw04_Labels.l0 kj7 l0 y230 ((((x4_2 ++ (⟨#[44]⟩ : ByteArray)) ++ (rdOf ByteArray.empty y230 x6_1)) ++ (⟨#[61]⟩ : ByteArray)) ++ t238) (wrap64 (x5_2 + 1)) (wrap64 (x6_1 + 1))) else (none)))) else (none)) else (none)) else (none)) else (none)) else (none)) else (none)) else (none)) else (if 0 ≤ x6_1 then (if x6_1 < (y230.length : Int) then (if x4_2.size + (rdOf ByteArray.empty y230 x6_1).size ≤ 9223372036854775807 then (if (x4_2 ++ (rdOf ByteArray.empty y230 x6_1)).size + 1 ≤ 9223372036854775807 then (if 0 ≤ x7_2 then (if x7_2 < (l0.length : Int) then ((billetlaw04_pick.f (rd l0 x7_2) 64).bind fun t241 => ((billetlaw04_Name.f (wrap64 (Int.tdiv t241 8))).bind fun t242 => (if ((x4_2 ++ (rdOf ByteArray.empty y230 x6_1)) ++ (⟨#[61]⟩ : ByteArray)).size + t242.size ≤ 9223372036854775807 then (billetlaw04_Labels.l0 kj7 l0 y230 (((x4_2 ++ (rdOf ByteArray.empty y230 x6_1)) ++ (⟨#[61]⟩ : ByteArray)) ++ t242) (wrap64 (x5_2 + 1)) (wrap64 (x6_1 + 1))) else (none)))) else (none)) else (none)) else (none)) else (none)) else (none)) else (none))) = some r := by rw [if_pos rfl] at H; exact H
              clear H
              have H := H1
              clear H1
              by_cases c14 : x5_2 > 0
              ·rw [if_pos c14] at H
               have c14b0 : decide (0 < x5_2) = true := decide_eq_true c14
               clear c14
               by_cases c15 : x4_2.size + 1 ≤ 9223372036854775807
               ·rw [if_pos c15] at H
                have c15b0 := eq_true c15
                have c15b1 : decide (x4_2.size + 1 ≤ 9223372036854775807) = true := decide_eq_true c15
                try have c15b2 : (9223372036854775807 < x4_2.size + 1) = False := eq_false (Nat.not_lt.2 c15)
                by_cases c16 : 0 ≤ x6_1
                ·rw [if_pos c16] at H
                 have c16b0 : decide (0 ≤ x6_1) = true := decide_eq_true c16
                 clear c16
                 by_cases c17 : x6_1 < (y230.length : Int)
                 ·rw [if_pos c17] at H
                  have c17b0 : decide (x6_1 < (y230.length : Int)) = true := decide_eq_true c17
                  clear c17
                  by_cases c18 : (x4_2 ++ (⟨#[44]⟩ : ByteArray)).size + (rdOf ByteArray.empty y230 x6_1).size ≤ 9223372036854775807
                  ·rw [if_pos c18] at H
                   (try (have c18s := c18; simp only [ByteArray.size_append, show (⟨#[44]⟩ : ByteArray).size = 1 from rfl, show (⟨#[61]⟩ : ByteArray).size = 1 from rfl] at c18s))
                   (try have c18sb0 := eq_true c18s)
                   (try have c18sb1 := decide_eq_true c18s)
                   (try have c18sb2 := eq_false (Nat.not_lt.2 c18s))
                   have c18b0 := eq_true c18
                   have c18b1 : decide ((x4_2 ++ (⟨#[44]⟩ : ByteArray)).size + (rdOf ByteArray.empty y230 x6_1).size ≤ 9223372036854775807) = true := decide_eq_true c18
                   try have c18b2 : (9223372036854775807 < (x4_2 ++ (⟨#[44]⟩ : ByteArray)).size + (rdOf ByteArray.empty y230 x6_1).size) = False := eq_false (Nat.not_lt.2 c18)
                   by_cases c19 : ((x4_2 ++ (⟨#[44]⟩ : ByteArray)) ++ (rdOf ByteArray.empty y230 x6_1)).size + 1 ≤ 9223372036854775807
                   ·rw [if_pos c19] at H
                    (try (have c19s := c19; simp only [ByteArray.size_append, show (⟨#[44]⟩ : ByteArray).size = 1 from rfl, show (⟨#[61]⟩ : ByteArray).size = 1 from rfl] at c19s))
                    (try have c19sb0 := eq_true c19s)
                    (try have c19sb1 := decide_eq_true c19s)
                    (try have c19sb2 := eq_false (Nat.not_lt.2 c19s))
                    have c19b0 := eq_true c19
                    have c19b1 : decide (((x4_2 ++ (⟨#[44]⟩ : ByteArray)) ++ (rdOf ByteArray.empty y230 x6_1)).size + 1 ≤ 9223372036854775807) = true := decide_eq_true c19
                    try have c19b2 : (9223372036854775807 < ((x4_2 ++ (⟨#[44]⟩ : ByteArray)) ++ (rdOf ByteArray.empty y230 x6_1)).size + 1) = False := eq_false (Nat.not_lt.2 c19)
                    by_cases c20 : 0 ≤ x7_2
                    ·rw [if_pos c20] at H
                     have c20b0 : decide (0 ≤ x7_2) = true := decide_eq_true c20
                     clear c20
                     by_cases c21 : x7_2 < (l0.length : Int)
                     ·rw [if_pos c21] at H
                      have c21b0 : decide (x7_2 < (l0.length : Int)) = true := decide_eq_true c21
                      clear c21
                      replace H := Option.bind_eq_some_iff.mp H
                      obtain ⟨t237, A220, H⟩ := H
                      replace H : ((billetlaw04_Name.f (wrap64 (Int.tdiv t237 8))).bind fun t238 => (if (((x4_2 ++ (⟨#[44]⟩ : ByteArray)) ++ (rdOf ByteArray.empty y230 x6_1)) ++ (⟨#[61]⟩ : ByteArray)).size + t238.size ≤ 9223372036854775807 then (billetlaw04_Labels.l0 kj7 l0 y230 ((((x4_2 ++ (⟨#[44]⟩ : ByteArray)) ++ (rdOf ByteArray.empty y230 x6_1)) ++ (⟨#[61]⟩ : ByteArray)) ++ t238) (wrap64 (x5_2 + 1)) (wrap64 (x6_1 + 1))) else (none))) = some r := H
                      have A22 := Aside0.mk A220
                      clear A220
                      replace H := Option.bind_eq_some_iff.mp H
                      obtain ⟨t238, A230, H⟩ := H
                      replace H : (if (((x4_2 ++ (⟨#[44]⟩ : ByteArray)) ++ (rdOf ByteArray.empty y230 x6_1)) ++ (⟨#[61]⟩ : ByteArray)).size + t238.size ≤ 9223372036854775807 then (billetlaw04_Labels.l0 kj7 l0 y230 ((((x4_2 ++ (⟨#[44]⟩ : ByteArray)) ++ (rdOf ByteArray.empty y230 x6_1)) ++ (⟨#[61]⟩ : ByteArray)) ++ t238) (wrap64 (x5_2 + 1)) (wrap64 (x6_1 + 1))) else (none)) = some r := H
                      have A23 := Aside0.mk A230
                      clear A230
                      by_cases c24 : (((x4_2 ++ (⟨#[44]⟩ : ByteArray)) ++ (rdOf ByteArray.empty y230 x6_1)) ++ (⟨#[61]⟩ : ByteArray)).size + t238.size ≤ 9223372036854775807
                      ·rw [if_pos c24] at H
                       (try (have c24s := c24; simp only [ByteArray.size_append, show (⟨#[44]⟩ : ByteArray).size = 1 from rfl, show (⟨#[61]⟩ : ByteArray).size = 1 from rfl] at c24s))
                       (try have c24sb0 := eq_true c24s)
                       (try have c24sb1 := decide_eq_true c24s)
                       (try have c24sb2 := eq_false (Nat.not_lt.2 c24s))
                       have c24b0 := eq_true c24
                       have c24b1 : decide ((((x4_2 ++ (⟨#[44]⟩ : ByteArray)) ++ (rdOf ByteArray.empty y230 x6_1)) ++ (⟨#[61]⟩ : ByteArray)).size + t238.size ≤ 9223372036854775807) = true := decide_eq_true c24
                       try have c24b2 : (9223372036854775807 < (((x4_2 ++ (⟨#[44]⟩ : ByteArray)) ++ (rdOf ByteArray.empty y230 x6_1)) ++ (⟨#[61]⟩ : ByteArray)).size + t238.size) = False := eq_false (Nat.not_lt.2 c24)
                       have H' := Aside0.mk H
                       clear H
                       try go_wp2
                       have n0_ := Aside0.mk (Kd.R_drew HO_3.out)
                       have n1_ := Aside0.mk (below_drew1 HB.out)
                       clear HO_3
                       clear HB
                       have HO_3 := n0_
                       have HB := n1_
                       clear n0_ n1_
                       obtain ⟨Ao26, co26, eo26⟩ := Kd.R_slice HO_3.out
                       (first | subst eo26 | (injection eo26 with f1_ f2_ f3_; have f4_ := f1_.symm; have f5_ := f3_.symm; clear f1_ f2_ f3_; subst f4_; subst f5_))
                       have p235 : 0 ≤ (x6_1 : Int) := of_decide_eq_true (by first | (with_reducible assumption) | assumption)
                       have q235 : x6_1 < (y230.length : Int) := of_decide_eq_true (by first | (with_reducible assumption) | assumption)
                       obtain ⟨ad235, e235, hx235_0⟩ := Kd.at_string (Kd.R_reads' HO_3.out).2.2 x6_1 p235 q235
                       cases e235
                       replace p235 := eq_true p235
                       (try replace p235z := eq_true p235z)
                       replace q235 := eq_true q235
                       (try replace q235z := eq_true q235z)
                       have p236 : 0 ≤ (x7_2 : Int) := of_decide_eq_true (by first | (with_reducible assumption) | assumption)
                       have q236 : x7_2 < (l0.length : Int) := of_decide_eq_true (by first | (with_reducible assumption) | assumption)
                       obtain ⟨ad236, e236, hx236_0⟩ := Kd.at_int HR0.out x7_2 p236 q236
                       have hw236_0 := hx236_0
                       cases e236
                       replace hx236_0 := (HB.out.cell (World.block_lt_of_cell? w _ hx236_0)).trans hx236_0
                       replace p236 := eq_true p236
                       (try replace p236z := eq_true p236z)
                       replace q236 := eq_true q236
                       (try replace q236z := eq_true q236z)
                       refine start_ (n := 16) (S := fun w' => w'.cell? (ad235.add (x6_1).toNat) = some (.string (rdOf ByteArray.empty y230 x6_1)) ∧ w'.cell? (ad236.add (x7_2).toNat) = some (.int .i64 (rd l0 x7_2))) (ds := []) (upT 16 0) (by kernel_rfl) rfl rfl ⟨hx235_0, ((HB.out.cell (World.block_lt_of_cell? w _ hw236_0)).trans hw236_0)⟩ (fun hHeld => ?_); refine with_tabW billetlaw04_Labels.tab13 billetlaw04_Labels.bits13 (fun HT_ HW_ => ?_)
                       generalize wc.drew = w25 at HO_3 HB hx235_0 hx236_0 hHeld ⊢
                       iterate 4 (refine pu 38 (v := ?_) (a' := ?_) rfl rfl (any_of HT_.out (by kernel_rfl)) (fun _ _ _ h => h) (Or.inl ⟨by rfl, ?_⟩) ?_ ?_; rotate_left; (·intro w'; go_simp; with_reducible rfl); rotate_left; (·simp only [Act.put, List.setIfInBounds_toArray, List.set_cons_zero, List.set_cons_succ, i64_w, i32_w, Nat.reduceAdd]; rfl); conv => arg 8; arg 2; simp only [Nat.reduceAdd])
                       refine pure_ (i := 7) (N := some 45) (v := ?_) (a' := ?_) #[true, true, true, true, false, false, false, true, false, false, false, false, false, false, false, false] rfl rfl (any_of HT_.out (by kernel_rfl)) (fun _ _ _ h => h) (Or.inl ⟨by rfl, ?_⟩) ?_ ?_
                       rotate_left
                       ·intro w'
                        go_simp
                        with_reducible rfl
                       rotate_left
                       ·simp only [Act.put, List.setIfInBounds_toArray, List.set_cons_zero, List.set_cons_succ, i64_w, i32_w]
                        rfl
                       refine pure_ (i := 8) (N := some 46) (v := ?_) (a' := ?_) #[true, true, true, true, false, false, false, true, true, false, false, false, false, false, false, false] rfl rfl (any_of HT_.out (by kernel_rfl)) (fun _ _ _ h => h) (Or.inl ⟨by rfl, ?_⟩) ?_ ?_
                       rotate_left
                       ·intro w'
                        go_simp
                        with_reducible rfl
                       rotate_left
                       ·simp only [Act.put, List.setIfInBounds_toArray, List.set_cons_zero, List.set_cons_succ, i64_w, i32_w]
                        rfl
                       refine pure_ (i := 9) (N := some 47) (v := ?_) (a' := ?_) #[true, true, true, true, false, false, false, true, true, true, false, false, false, false, false, false] rfl rfl (any_of HT_.out (by kernel_rfl)) (fun _ _ _ h => h) (Or.inl ⟨by rfl, ?_⟩) ?_ ?_
                       rotate_left
                       ·intro w'
                        go_simp
                        with_reducible rfl
                       rotate_left
                       ·simp only [Act.put, List.setIfInBounds_toArray, List.set_cons_zero, List.set_cons_succ, i64_w, i32_w]
                        rfl
                       refine take_ (i := 4) (N := some 42) (v := ?_) (a' := ?_) #[true, true, true, true, true, false, false, true, true, true, false, false, false, false, false, false] rfl rfl (take_ofW HT_.out HW_.out (by kernel_rfl)) (fun _ _ _ h => h) (Or.inl ⟨by rfl, ?_⟩) hHeld ?_ ?_
                       rotate_left
                       ·rintro w' ⟨s0, s1⟩
                        go_simp
                        with_reducible rfl
                       rotate_left
                       ·simp only [Act.put, List.setIfInBounds_toArray, List.set_cons_zero, List.set_cons_succ, i64_w, i32_w]
                        rfl
                       refine pure_ (i := 5) (N := some 43) (v := ?_) (a' := ?_) #[true, true, true, true, true, true, false, true, true, true, false, false, false, false, false, false] rfl rfl (any_of HT_.out (by kernel_rfl)) (fun _ _ _ h => h) (Or.inl ⟨by rfl, ?_⟩) ?_ ?_
                       rotate_left
                       ·intro w'
                        go_simp
                        with_reducible rfl
                       rotate_left
                       ·simp only [Act.put, List.setIfInBounds_toArray, List.set_cons_zero, List.set_cons_succ, i64_w, i32_w]
                        rfl
                       refine pure_ (i := 6) (N := some 44) (v := ?_) (a' := ?_) (upT 16 10) rfl rfl (any_of HT_.out (by kernel_rfl)) (fun _ _ _ h => h) (Or.inl ⟨by rfl, ?_⟩) ?_ ?_
                       rotate_left
                       ·intro w'
                        go_simp
                        with_reducible rfl
                       rotate_left
                       ·simp only [Act.put, List.setIfInBounds_toArray, List.set_cons_zero, List.set_cons_succ, i64_w, i32_w]
                        rfl
                       refine take_ (i := 10) (N := some 48) (v := ?_) (a' := ?_) (upT 16 11) rfl rfl (take_ofW HT_.out HW_.out (by kernel_rfl)) (fun _ _ _ h => h) (Or.inl ⟨by rfl, ?_⟩) hHeld ?_ ?_
                       rotate_left
                       ·rintro w' ⟨s0, s1⟩
                        go_simp
                        with_reducible rfl
                       rotate_left
                       ·simp only [Act.put, List.setIfInBounds_toArray, List.set_cons_zero, List.set_cons_succ, i64_w, i32_w]
                        rfl
                       refine one_ (i := 11) (N := some 49) (upT 16 12) rfl rfl (one_of HT_.out (by kernel_rfl)) (by decide) (fun K hK => ?_)
                       refine goes_ Tryz.func100 (by kernel_rfl) rfl #[.int .i64 (rd l0 x7_2), .int .i64 64] (by rfl) rfl rfl (by (try simp only [List.map_toArray, List.map_cons, List.map_nil]); first | done | rfl | (simp only [List.length_drop, List.length_take]; rfl)) ?_
                       with_reducible refine (billetlaw04_pick.calls (rd l0 x7_2) 64 t237 _ A22.out).mono ?_
                       rintro e w' ⟨rfl, ⟨nd, rfl⟩⟩
                       refine ⟨_, rfl, ?_⟩
                       refine hK.out _ _ ⟨hHeld.1, ((HB.out.cell (World.block_lt_of_cell? w _ hw236_0)).trans hw236_0)⟩ (fun hHeld => ?_)
                       clear hK K
                       refine norm_ (a' := ?_) ?_ ?_
                       rotate_left
                       ·show Act.put _ (some 49) _ = _
                        simp only [Act.put, List.setIfInBounds_toArray, List.set_cons_zero, List.set_cons_succ, i64_w, i32_w]
                        rfl
                       refine pu 38 (v := ?_) (a' := ?_) rfl rfl (any_of HT_.out (by kernel_rfl)) (fun _ _ _ h => h) (Or.inl ⟨by rfl, ?_⟩) ?_ ?_; rotate_left; (·intro w'; go_simp; with_reducible rfl); rotate_left; (·simp only [Act.put, List.setIfInBounds_toArray, List.set_cons_zero, List.set_cons_succ, i64_w, i32_w, Nat.reduceAdd]; rfl); conv => arg 8; arg 2; simp only [Nat.reduceAdd]
                       refine one_ (i := 13) (N := some 51) (upT 16 14) rfl rfl (one_of HT_.out (by kernel_rfl)) (by decide) (fun K hK => ?_)
                       refine goes_ Tryz.func99 (by kernel_rfl) rfl #[.int .i64 (wrap64 (Int.tdiv t237 8))] (by rfl) rfl rfl (by (try simp only [List.map_toArray, List.map_cons, List.map_nil]); first | done | rfl | (simp only [List.length_drop, List.length_take]; rfl)) ?_
                       with_reducible refine (billetlaw04_Name.calls (wrap64 (Int.tdiv t237 8)) t238 _ A23.out).mono ?_
                       rintro e w27 ⟨rfl, hb⟩
                       have HS0_ := (hb.cell (World.block_lt_of_cell? _ _ (hHeld.1))).trans (hHeld.1)
                       refine ⟨_, rfl, ?_⟩
                       have n0_ := Aside0.mk (Kd.R_below (by (with_reducible repeat (first | apply Kd.R_alloc | apply Kd.R_drewN | apply Kd.R_drew)); exact HO_3.out) hb)
                       have n1_ := Aside0.mk (below_step (by repeat (first | (with_reducible first | exact HB.out | apply below_alloc | apply pw_below_drewN | apply below_drew1) | exact HB.out)) hb)
                       clear HO_3
                       clear HB
                       have HO_3 := n0_
                       have HB := n1_
                       clear n0_ n1_
                       (try clear hb)
                       (try clear hb2)
                       (try clear hk)
                       (try clear hi)
                       (try clear hge)
                       refine hK.out _ _ ⟨HS0_, ((HB.out.cell (World.block_lt_of_cell? w _ hw236_0)).trans hw236_0)⟩ (fun hHeld => ?_)
                       clear hK K
                       refine norm_ (a' := ?_) ?_ ?_
                       rotate_left
                       ·show Act.put _ (some 51) _ = _
                        simp only [Act.put, List.setIfInBounds_toArray, List.set_cons_zero, List.set_cons_succ, i64_w, i32_w]
                        rfl
                       refine pu 38 (v := ?_) (a' := ?_) rfl rfl (any_of HT_.out (by kernel_rfl)) (fun _ _ _ h => h) (Or.inl ⟨by rfl, ?_⟩) ?_ ?_; rotate_left; (·intro w'; go_simp; with_reducible rfl); rotate_left; (·simp only [Act.put, List.setIfInBounds_toArray, List.set_cons_zero, List.set_cons_succ, i64_w, i32_w, Nat.reduceAdd]; rfl); conv => arg 8; arg 2; simp only [Nat.reduceAdd]
                       refine pure_ (i := 15) (N := some 4) (v := ?_) (a' := ?_) (upT 16 16) rfl rfl (any_of HT_.out (by kernel_rfl)) (fun _ _ _ h => h) (Or.inl ⟨by rfl, ?_⟩) ?_ ?_
                       rotate_left
                       ·intro w'
                        go_simp
                        with_reducible rfl
                       rotate_left
                       ·simp only [Act.put, List.setIfInBounds_toArray, List.set_cons_zero, List.set_cons_succ, i64_w, i32_w]
                        rfl
                       refine done_ (done_of HT_.out (by kernel_rfl)) ?_
                       try go_wp2
                       go_roundg kj7
                       case measure => have := HK1.out; have := HK2.out; have := HJ4.out; have := HJ7.out; omega
                       case rel => exact ⟨((((x4_2 ++ (⟨#[44]⟩ : ByteArray)) ++ (rdOf ByteArray.empty y230 x6_1)) ++ (⟨#[61]⟩ : ByteArray)) ++ t238), (wrap64 (x5_2 + 1)), (wrap64 (x6_1 + 1)), (by first | rfl | (simp; done) | (simp [*]; done)), (by first | rfl | (simp; done) | (simp [*]; done)), (by first | rfl | (simp; done) | (simp [*]; done)), H', ⟨by have := HK1.out; have := HK2.out; have := HJ4.out; have := HJ7.out; omega⟩, ⟨by (with_reducible repeat (first | apply Kd.R_alloc | apply Kd.R_drewN | apply Kd.R_drew)); exact HO_3.out⟩, ⟨by repeat (first | (with_reducible first | exact HB.out | apply below_alloc | apply pw_below_drewN | apply below_drew1) | exact HB.out)⟩⟩
                      ·rw [if_neg c24] at H
                       exact absurd H (by simp)
                     ·rw [if_neg c21] at H
                      exact absurd H (by simp)
                    ·rw [if_neg c20] at H
                     exact absurd H (by simp)
                   ·rw [if_neg c19] at H
                    exact absurd H (by simp)
                  ·rw [if_neg c18] at H
                   exact absurd H (by simp)
                 ·rw [if_neg c17] at H
                  exact absurd H (by simp)
                ·rw [if_neg c16] at H
                 exact absurd H (by simp)
               ·rw [if_neg c15] at H
                exact absurd H (by simp)
              ·rw [if_neg c14] at H
               have c14b0 : decide (0 < x5_2) = false := decide_eq_false c14
               clear c14
               by_cases c28 : 0 ≤ x6_1
               ·rw [if_pos c28] at H
                have c28b0 : decide (0 ≤ x6_1) = true := decide_eq_true c28
                clear c28
                by_cases c29 : x6_1 < (y230.length : Int)
                ·rw [if_pos c29] at H
                 have c29b0 : decide (x6_1 < (y230.length : Int)) = true := decide_eq_true c29
                 clear c29
                 by_cases c30 : x4_2.size + (rdOf ByteArray.empty y230 x6_1).size ≤ 9223372036854775807
                 ·rw [if_pos c30] at H
                  have c30b0 := eq_true c30
                  have c30b1 : decide (x4_2.size + (rdOf ByteArray.empty y230 x6_1).size ≤ 9223372036854775807) = true := decide_eq_true c30
                  try have c30b2 : (9223372036854775807 < x4_2.size + (rdOf ByteArray.empty y230 x6_1).size) = False := eq_false (Nat.not_lt.2 c30)
                  by_cases c31 : (x4_2 ++ (rdOf ByteArray.empty y230 x6_1)).size + 1 ≤ 9223372036854775807
                  ·rw [if_pos c31] at H
                   (try (have c31s := c31; simp only [ByteArray.size_append, show (⟨#[44]⟩ : ByteArray).size = 1 from rfl, show (⟨#[61]⟩ : ByteArray).size = 1 from rfl] at c31s))
                   (try have c31sb0 := eq_true c31s)
                   (try have c31sb1 := decide_eq_true c31s)
                   (try have c31sb2 := eq_false (Nat.not_lt.2 c31s))
                   have c31b0 := eq_true c31
                   have c31b1 : decide ((x4_2 ++ (rdOf ByteArray.empty y230 x6_1)).size + 1 ≤ 9223372036854775807) = true := decide_eq_true c31
                   try have c31b2 : (9223372036854775807 < (x4_2 ++ (rdOf ByteArray.empty y230 x6_1)).size + 1) = False := eq_false (Nat.not_lt.2 c31)
                   by_cases c32 : 0 ≤ x7_2
                   ·rw [if_pos c32] at H
                    have c32b0 : decide (0 ≤ x7_2) = true := decide_eq_true c32
                    clear c32
                    by_cases c33 : x7_2 < (l0.length : Int)
                    ·rw [if_pos c33] at H
                     have c33b0 : decide (x7_2 < (l0.length : Int)) = true := decide_eq_true c33
                     clear c33
                     replace H := Option.bind_eq_some_iff.mp H
                     obtain ⟨t241, A340, H⟩ := H
                     replace H : ((billetlaw04_Name.f (wrap64 (Int.tdiv t241 8))).bind fun t242 => (if ((x4_2 ++ (rdOf ByteArray.empty y230 x6_1)) ++ (⟨#[61]⟩ : ByteArray)).size + t242.size ≤ 9223372036854775807 then (billetlaw04_Labels.l0 kj7 l0 y230 (((x4_2 ++ (rdOf ByteArray.empty y230 x6_1)) ++ (⟨#[61]⟩ : ByteArray)) ++ t242) (wrap64 (x5_2 + 1)) (wrap64 (x6_1 + 1))) else (none))) = some r := H
                     have A34 := Aside0.mk A340
                     clear A340
                     replace H := Option.bind_eq_some_iff.mp H
                     obtain ⟨t242, A350, H⟩ := H
                     replace H : (if ((x4_2 ++ (rdOf ByteArray.empty y230 x6_1)) ++ (⟨#[61]⟩ : ByteArray)).size + t242.size ≤ 9223372036854775807 then (billetlaw04_Labels.l0 kj7 l0 y230 (((x4_2 ++ (rdOf ByteArray.empty y230 x6_1)) ++ (⟨#[61]⟩ : ByteArray)) ++ t242) (wrap64 (x5_2 + 1)) (wrap64 (x6_1 + 1))) else (none)) = some r := H
                     have A35 := Aside0.mk A350
                     clear A350
                     by_cases c36 : ((x4_2 ++ (rdOf ByteArray.empty y230 x6_1)) ++ (⟨#[61]⟩ : ByteArray)).size + t242.size ≤ 9223372036854775807
                     ·rw [if_pos c36] at H
                      (try (have c36s := c36; simp only [ByteArray.size_append, show (⟨#[44]⟩ : ByteArray).size = 1 from rfl, show (⟨#[61]⟩ : ByteArray).size = 1 from rfl] at c36s))
                      (try have c36sb0 := eq_true c36s)
                      (try have c36sb1 := decide_eq_true c36s)
                      (try have c36sb2 := eq_false (Nat.not_lt.2 c36s))
                      have c36b0 := eq_true c36
                      have c36b1 : decide (((x4_2 ++ (rdOf ByteArray.empty y230 x6_1)) ++ (⟨#[61]⟩ : ByteArray)).size + t242.size ≤ 9223372036854775807) = true := decide_eq_true c36
                      try have c36b2 : (9223372036854775807 < ((x4_2 ++ (rdOf ByteArray.empty y230 x6_1)) ++ (⟨#[61]⟩ : ByteArray)).size + t242.size) = False := eq_false (Nat.not_lt.2 c36)
                      have H' := Aside0.mk H
                      clear H
                      try go_wp2
                      have n0_ := Aside0.mk (Kd.R_drew HO_3.out)
                      have n1_ := Aside0.mk (below_drew1 HB.out)
                      clear HO_3
                      clear HB
                      have HO_3 := n0_
                      have HB := n1_
                      clear n0_ n1_
                      obtain ⟨Ao38, co38, eo38⟩ := Kd.R_slice HO_3.out
                      (first | subst eo38 | (injection eo38 with f1_ f2_ f3_; have f4_ := f1_.symm; have f5_ := f3_.symm; clear f1_ f2_ f3_; subst f4_; subst f5_))
                      have p239 : 0 ≤ (x6_1 : Int) := of_decide_eq_true (by first | (with_reducible assumption) | assumption)
                      have q239 : x6_1 < (y230.length : Int) := of_decide_eq_true (by first | (with_reducible assumption) | assumption)
                      obtain ⟨ad239, e239, hx239_0⟩ := Kd.at_string (Kd.R_reads' HO_3.out).2.2 x6_1 p239 q239
                      cases e239
                      replace p239 := eq_true p239
                      (try replace p239z := eq_true p239z)
                      replace q239 := eq_true q239
                      (try replace q239z := eq_true q239z)
                      have p240 : 0 ≤ (x7_2 : Int) := of_decide_eq_true (by first | (with_reducible assumption) | assumption)
                      have q240 : x7_2 < (l0.length : Int) := of_decide_eq_true (by first | (with_reducible assumption) | assumption)
                      obtain ⟨ad240, e240, hx240_0⟩ := Kd.at_int HR0.out x7_2 p240 q240
                      have hw240_0 := hx240_0
                      cases e240
                      replace hx240_0 := (HB.out.cell (World.block_lt_of_cell? w _ hx240_0)).trans hx240_0
                      replace p240 := eq_true p240
                      (try replace p240z := eq_true p240z)
                      replace q240 := eq_true q240
                      (try replace q240z := eq_true q240z)
                      refine start_ (n := 16) (S := fun w' => w'.cell? (ad239.add (x6_1).toNat) = some (.string (rdOf ByteArray.empty y230 x6_1)) ∧ w'.cell? (ad240.add (x7_2).toNat) = some (.int .i64 (rd l0 x7_2))) (ds := []) (upT 16 0) (by kernel_rfl) rfl rfl ⟨hx239_0, ((HB.out.cell (World.block_lt_of_cell? w _ hw240_0)).trans hw240_0)⟩ (fun hHeld => ?_); refine with_tabW billetlaw04_Labels.tab13 billetlaw04_Labels.bits13 (fun HT_ HW_ => ?_)
                      generalize wc.drew = w37 at HO_3 HB hx239_0 hx240_0 hHeld ⊢
                      iterate 4 (refine pu 38 (v := ?_) (a' := ?_) rfl rfl (any_of HT_.out (by kernel_rfl)) (fun _ _ _ h => h) (Or.inl ⟨by rfl, ?_⟩) ?_ ?_; rotate_left; (·intro w'; go_simp; with_reducible rfl); rotate_left; (·simp only [Act.put, List.setIfInBounds_toArray, List.set_cons_zero, List.set_cons_succ, i64_w, i32_w, Nat.reduceAdd]; rfl); conv => arg 8; arg 2; simp only [Nat.reduceAdd])
                      refine pure_ (i := 7) (N := some 45) (v := ?_) (a' := ?_) #[true, true, true, true, false, false, false, true, false, false, false, false, false, false, false, false] rfl rfl (any_of HT_.out (by kernel_rfl)) (fun _ _ _ h => h) (Or.inl ⟨by rfl, ?_⟩) ?_ ?_
                      rotate_left
                      ·intro w'
                       go_simp
                       with_reducible rfl
                      rotate_left
                      ·simp only [Act.put, List.setIfInBounds_toArray, List.set_cons_zero, List.set_cons_succ, i64_w, i32_w]
                       rfl
                      refine pure_ (i := 8) (N := some 46) (v := ?_) (a' := ?_) #[true, true, true, true, false, false, false, true, true, false, false, false, false, false, false, false] rfl rfl (any_of HT_.out (by kernel_rfl)) (fun _ _ _ h => h) (Or.inl ⟨by rfl, ?_⟩) ?_ ?_
                      rotate_left
                      ·intro w'
                       go_simp
                       with_reducible rfl
                      rotate_left
                      ·simp only [Act.put, List.setIfInBounds_toArray, List.set_cons_zero, List.set_cons_succ, i64_w, i32_w]
                       rfl
                      refine pure_ (i := 9) (N := some 47) (v := ?_) (a' := ?_) #[true, true, true, true, false, false, false, true, true, true, false, false, false, false, false, false] rfl rfl (any_of HT_.out (by kernel_rfl)) (fun _ _ _ h => h) (Or.inl ⟨by rfl, ?_⟩) ?_ ?_
                      rotate_left
                      ·intro w'
                       go_simp
                       with_reducible rfl
                      rotate_left
                      ·simp only [Act.put, List.setIfInBounds_toArray, List.set_cons_zero, List.set_cons_succ, i64_w, i32_w]
                       rfl
                      refine take_ (i := 4) (N := some 42) (v := ?_) (a' := ?_) #[true, true, true, true, true, false, false, true, true, true, false, false, false, false, false, false] rfl rfl (take_ofW HT_.out HW_.out (by kernel_rfl)) (fun _ _ _ h => h) (Or.inl ⟨by rfl, ?_⟩) hHeld ?_ ?_
                      rotate_left
                      ·rintro w' ⟨s0, s1⟩
                       go_simp
                       with_reducible rfl
                      rotate_left
                      ·simp only [Act.put, List.setIfInBounds_toArray, List.set_cons_zero, List.set_cons_succ, i64_w, i32_w]
                       rfl
                      refine pure_ (i := 5) (N := some 43) (v := ?_) (a' := ?_) #[true, true, true, true, true, true, false, true, true, true, false, false, false, false, false, false] rfl rfl (any_of HT_.out (by kernel_rfl)) (fun _ _ _ h => h) (Or.inl ⟨by rfl, ?_⟩) ?_ ?_
                      rotate_left
                      ·intro w'
                       go_simp
                       with_reducible rfl
                      rotate_left
                      ·simp only [Act.put, List.setIfInBounds_toArray, List.set_cons_zero, List.set_cons_succ, i64_w, i32_w]
                       rfl
                      refine pure_ (i := 6) (N := some 44) (v := ?_) (a' := ?_) (upT 16 10) rfl rfl (any_of HT_.out (by kernel_rfl)) (fun _ _ _ h => h) (Or.inl ⟨by rfl, ?_⟩) ?_ ?_
                      rotate_left
                      ·intro w'
                       go_simp
                       with_reducible rfl
                      rotate_left
                      ·simp only [Act.put, List.setIfInBounds_toArray, List.set_cons_zero, List.set_cons_succ, i64_w, i32_w]
                       rfl
                      refine take_ (i := 10) (N := some 48) (v := ?_) (a' := ?_) (upT 16 11) rfl rfl (take_ofW HT_.out HW_.out (by kernel_rfl)) (fun _ _ _ h => h) (Or.inl ⟨by rfl, ?_⟩) hHeld ?_ ?_
                      rotate_left
                      ·rintro w' ⟨s0, s1⟩
                       go_simp
                       with_reducible rfl
                      rotate_left
                      ·simp only [Act.put, List.setIfInBounds_toArray, List.set_cons_zero, List.set_cons_succ, i64_w, i32_w]
                       rfl
                      refine one_ (i := 11) (N := some 49) (upT 16 12) rfl rfl (one_of HT_.out (by kernel_rfl)) (by decide) (fun K hK => ?_)
                      refine goes_ Tryz.func100 (by kernel_rfl) rfl #[.int .i64 (rd l0 x7_2), .int .i64 64] (by rfl) rfl rfl (by (try simp only [List.map_toArray, List.map_cons, List.map_nil]); first | done | rfl | (simp only [List.length_drop, List.length_take]; rfl)) ?_
                      with_reducible refine (billetlaw04_pick.calls (rd l0 x7_2) 64 t241 _ A34.out).mono ?_
                      rintro e w' ⟨rfl, ⟨nd, rfl⟩⟩
                      refine ⟨_, rfl, ?_⟩
                      refine hK.out _ _ ⟨hHeld.1, ((HB.out.cell (World.block_lt_of_cell? w _ hw240_0)).trans hw240_0)⟩ (fun hHeld => ?_)
                      clear hK K
                      refine norm_ (a' := ?_) ?_ ?_
                      rotate_left
                      ·show Act.put _ (some 49) _ = _
                       simp only [Act.put, List.setIfInBounds_toArray, List.set_cons_zero, List.set_cons_succ, i64_w, i32_w]
                       rfl
                      refine pu 38 (v := ?_) (a' := ?_) rfl rfl (any_of HT_.out (by kernel_rfl)) (fun _ _ _ h => h) (Or.inl ⟨by rfl, ?_⟩) ?_ ?_; rotate_left; (·intro w'; go_simp; with_reducible rfl); rotate_left; (·simp only [Act.put, List.setIfInBounds_toArray, List.set_cons_zero, List.set_cons_succ, i64_w, i32_w, Nat.reduceAdd]; rfl); conv => arg 8; arg 2; simp only [Nat.reduceAdd]
                      refine one_ (i := 13) (N := some 51) (upT 16 14) rfl rfl (one_of HT_.out (by kernel_rfl)) (by decide) (fun K hK => ?_)
                      refine goes_ Tryz.func99 (by kernel_rfl) rfl #[.int .i64 (wrap64 (Int.tdiv t241 8))] (by rfl) rfl rfl (by (try simp only [List.map_toArray, List.map_cons, List.map_nil]); first | done | rfl | (simp only [List.length_drop, List.length_take]; rfl)) ?_
                      with_reducible refine (billetlaw04_Name.calls (wrap64 (Int.tdiv t241 8)) t242 _ A35.out).mono ?_
                      rintro e w39 ⟨rfl, hb⟩
                      have HS0_ := (hb.cell (World.block_lt_of_cell? _ _ (hHeld.1))).trans (hHeld.1)
                      refine ⟨_, rfl, ?_⟩
                      have n0_ := Aside0.mk (Kd.R_below (by (with_reducible repeat (first | apply Kd.R_alloc | apply Kd.R_drewN | apply Kd.R_drew)); exact HO_3.out) hb)
                      have n1_ := Aside0.mk (below_step (by repeat (first | (with_reducible first | exact HB.out | apply below_alloc | apply pw_below_drewN | apply below_drew1) | exact HB.out)) hb)
                      clear HO_3
                      clear HB
                      have HO_3 := n0_
                      have HB := n1_
                      clear n0_ n1_
                      (try clear hb)
                      (try clear hb2)
                      (try clear hk)
                      (try clear hi)
                      (try clear hge)
                      refine hK.out _ _ ⟨HS0_, ((HB.out.cell (World.block_lt_of_cell? w _ hw240_0)).trans hw240_0)⟩ (fun hHeld => ?_)
                      clear hK K
                      refine norm_ (a' := ?_) ?_ ?_
                      rotate_left
                      ·show Act.put _ (some 51) _ = _
                       simp only [Act.put, List.setIfInBounds_toArray, List.set_cons_zero, List.set_cons_succ, i64_w, i32_w]
                       rfl
                      refine pu 38 (v := ?_) (a' := ?_) rfl rfl (any_of HT_.out (by kernel_rfl)) (fun _ _ _ h => h) (Or.inl ⟨by rfl, ?_⟩) ?_ ?_; rotate_left; (·intro w'; go_simp; with_reducible rfl); rotate_left; (·simp only [Act.put, List.setIfInBounds_toArray, List.set_cons_zero, List.set_cons_succ, i64_w, i32_w, Nat.reduceAdd]; rfl); conv => arg 8; arg 2; simp only [Nat.reduceAdd]
                      refine pure_ (i := 15) (N := some 4) (v := ?_) (a' := ?_) (upT 16 16) rfl rfl (any_of HT_.out (by kernel_rfl)) (fun _ _ _ h => h) (Or.inl ⟨by rfl, ?_⟩) ?_ ?_
                      rotate_left
                      ·intro w'
                       go_simp
                       with_reducible rfl
                      rotate_left
                      ·simp only [Act.put, List.setIfInBounds_toArray, List.set_cons_zero, List.set_cons_succ, i64_w, i32_w]
                       rfl
                      refine done_ (done_of HT_.out (by kernel_rfl)) ?_
                      try go_wp2
                      go_roundg kj7
                      case measure => have := HK1.out; have := HK2.out; have := HJ4.out; have := HJ7.out; omega
                      case rel => exact ⟨(((x4_2 ++ (rdOf ByteArray.empty y230 x6_1)) ++ (⟨#[61]⟩ : ByteArray)) ++ t242), (wrap64 (x5_2 + 1)), (wrap64 (x6_1 + 1)), (by first | rfl | (simp; done) | (simp [*]; done)), (by first | rfl | (simp; done) | (simp [*]; done)), (by first | rfl | (simp; done) | (simp [*]; done)), H', ⟨by have := HK1.out; have := HK2.out; have := HJ4.out; have := HJ7.out; omega⟩, ⟨by (with_reducible repeat (first | apply Kd.R_alloc | apply Kd.R_drewN | apply Kd.R_drew)); exact HO_3.out⟩, ⟨by repeat (first | (with_reducible first | exact HB.out | apply below_alloc | apply pw_below_drewN | apply below_drew1) | exact HB.out)⟩⟩
                     ·rw [if_neg c36] at H
                      exact absurd H (by simp)
                    ·rw [if_neg c33] at H
                     exact absurd H (by simp)
                   ·rw [if_neg c32] at H
                    exact absurd H (by simp)
                  ·rw [if_neg c31] at H
                   exact absurd H (by simp)
                 ·rw [if_neg c30] at H
                  exact absurd H (by simp)
                ·rw [if_neg c29] at H
                 exact absurd H (by simp)
               ·rw [if_neg c28] at H
                exact absurd H (by simp)
             ·replace c13 := Bool.eq_false_iff.mpr c13
              subst c13
              have H1 : (billetlaw04_Labels.l1 kj7 l0 y230 x4_2 x5_2 x6_1 (wrap64 (x7_2 + 1))) = some r := by rw [if_neg (show ¬ (false = true) by decide)] at H; exact H
              clear H
              have H := H1
              clear H1
              have H' := Aside0.mk H
              clear H
              go_wp2
              go_roundg kj7
              case measure => have := HK1.out; have := HK2.out; have := HJ4.out; have := HJ7.out; omega
              case rel => exact ⟨(x4_2), (x5_2), (wrap64 (x7_2 + 1)), (by first | rfl | (simp; done) | (simp [*]; done)), (by first | rfl | (simp; done) | (simp [*]; done)), (by first | rfl | (simp; done) | (simp [*]; done)), H', ⟨by have := HK1.out; have := HK2.out; have := HJ4.out; have := HJ7.out; omega⟩, ⟨by (with_reducible repeat (first | apply Kd.R_alloc | apply Kd.R_drewN | apply Kd.R_drew)); exact HO_3.out⟩, ⟨by repeat (first | (with_reducible first | exact HB.out | apply below_alloc | apply pw_below_drewN | apply below_drew1) | exact HB.out)⟩⟩
          ·replace c7 := Bool.eq_false_iff.mpr c7
           subst c7
           have H1 : (billetlaw04_Labels.l0 kj4 l0 y230 x4_2 x5_2 (wrap64 (x6_1 + 1))) = some r := by rw [if_neg (show ¬ (false = true) by decide)] at H; exact H
           clear H
           have H := H1
           clear H1
           have H' := Aside0.mk H
           clear H
           go_wp2
           go_roundg kj4
           case measure => have := HK1.out; have := HK2.out; have := HJ4.out; omega
           case rel => exact ⟨(x4_2), (x5_2), (wrap64 (x6_1 + 1)), (by first | rfl | (simp; done) | (simp [*]; done)), (by first | rfl | (simp; done) | (simp [*]; done)), (by first | rfl | (simp; done) | (simp [*]; done)), H', ⟨by have := HK1.out; have := HK2.out; have := HJ4.out; omega⟩, ⟨by (with_reducible repeat (first | apply Kd.R_alloc | apply Kd.R_drewN | apply Kd.R_drew)); exact HO_3.out⟩, ⟨by repeat (first | (with_reducible first | exact HB.out | apply below_alloc | apply pw_below_drewN | apply below_drew1) | exact HB.out)⟩⟩
   ·rw [if_neg c4] at H
    have c4b0 : decide (x6_1 < 8) = false := decide_eq_false c4
    clear c4
    obtain rfl := Option.some.inj H
    go_wp2
    go_ret
    exact ⟨by first | rfl | (simp [errW_none, errW_some] <;> rfl) | (simp [*, errW_none, errW_some] <;> rfl), by repeat (first | (with_reducible first | exact HB.out | apply below_alloc | apply pw_below_drewN | apply below_drew1) | exact HB.out)⟩

end Go.Proofs.YtldlkbjbfgieeaaGreatDoor.Q
