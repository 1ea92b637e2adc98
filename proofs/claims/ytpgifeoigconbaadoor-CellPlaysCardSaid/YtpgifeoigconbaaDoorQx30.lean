-- Written by a program of this session (mp.py).
import Derived.Test.YtpgifeoigconbaaDoorSp
import Derived.Test.YtpgifeoigconbaaDoorQx0
import Derived.Test.YtpgifeoigconbaaDoorQx25
import Derived.Test.YtpgifeoigconbaaDoorQx29
namespace Go.Proofs.YtpgifeoigconbaaDoor.Q
open Go.RowKit Go.Proofs.YtpgifeoigconbaaDoorW.PrintWords Go.Proofs.YtpgifeoigconbaaDoorW.PrintLast Go.Proofs.YtpgifeoigconbaaDoor.Mo
attribute [local go_sem] max2_int min2_int max_two min_two max_three min_three max_four min_four   -- for this text's walks alone
open Go.Proofs.YtpgifeoigconbaaDoor.Gn
set_option linter.unusedVariables false
set_option linter.unusedSimpArgs false

/-! ### msg_Right: function 21 -/
def msg_Right.l0 : Nat → List (S35) → Int → Int → Int → Int → Int → Int → Int → Int → List (S35) → Option (Bool)
 | 0, _, _, _, _, _, _, _, _, _, _ => none
 | k + 1, x6, x7, x8, xP, xQ, xR, xS, xT, xU, xM => if x8 < x7 then (if 0 ≤ x8 then (if x8 < (x6.length : Int) then (if x8 = 64 then (some false) else ((label_IsName.f ((rd_T35 x6 x8).f0)).bind fun tN => (if tN = true then ((label_IsName.f ((rd_T35 x6 x8).f1)).bind fun tK => (if tK = true then ((msg_within.f ((rd_T35 x6 x8).f2) 1 1000).bind fun tI => (if tI = true then (if x8 > 0 then (if 0 ≤ (wrap64 (x8 - 1)) then (if (wrap64 (x8 - 1)) < (xM.length : Int) then ((msg_rise.f k ((rd_T35 xM (wrap64 (x8 - 1))).f0) ((rd_T35 xM (wrap64 (x8 - 1))).f1) ((rd_T35 xM (wrap64 (x8 - 1))).f2) ((rd_T35 x6 x8).f0) ((rd_T35 x6 x8).f1) ((rd_T35 x6 x8).f2)).bind fun tG => (if tG = true then (msg_Right.l0 k x6 x7 (wrap64 (x8 + 1)) xP xQ xR xS xT xU xM) else (some false))) else (none)) else (none)) else (msg_Right.l0 k x6 x7 (wrap64 (x8 + 1)) xP xQ xR xS xT xU xM)) else (some false))) else (some false))) else (some false)))) else (none)) else (none)) else ((msg_within.f xP 1 2).bind fun tO => (if tO = true then ((msg_within.f xQ 0 2).bind fun tL => (if tL = true then ((msg_within.f xR 0 1099511627776).bind fun tJ => (if tJ = true then ((msg_within.f xS 0 1099511627776).bind fun tH => (if tH = true then ((msg_within.f xT 0 1099511627776).bind fun tF => (if tF = true then ((msg_within.f xU (-2199023255552) 2199023255552).bind fun tE => (some tE)) else (some false))) else (some false))) else (some false))) else (some false))) else (some false)))
def msg_Right.f (k : Nat) (a0_0 : Int) (a0_1 : Int) (a0_2 : Int) (a0_3 : Int) (a0_4 : Int) (a0_5 : Int) (l0_6 : List (S35)) : Option (Bool) := msg_Right.l0 k l0_6 (l0_6.length : Int) 0 a0_0 a0_1 a0_2 a0_3 a0_4 a0_5 l0_6
theorem msg_Right.mono_l : ∀ k, (∀ y0 y1 y2 y3 y4 y5 y6 y7 y8 y9, LeO (msg_Right.l0 k y0 y1 y2 y3 y4 y5 y6 y7 y8 y9) (msg_Right.l0 (k + 1) y0 y1 y2 y3 y4 y5 y6 y7 y8 y9))
 | 0 => fun _ _ _ _ _ _ _ _ _ _ r h => by simp [msg_Right.l0] at h
 | k + 1 => by
  have ih0 := msg_Right.mono_l k
  ·intro y0 y1 y2 y3 y4 y5 y6 y7 y8 y9
   unfold msg_Right.l0
   repeat' first
   | (with_reducible exact ih0 _ _ _ _ _ _ _ _ _ _)
   | (with_reducible exact msg_rise.mono _ _ _ _ _ _ _)
   | (with_reducible exact LeO.refl _)
   | (with_reducible exact LeO.none _)
   | (with_reducible refine LeO.ite ?_ ?_)
   | (with_reducible refine LeO.bind ?_ (fun _ => ?_))
   | exact ih0 _ _ _ _ _ _ _ _ _ _
   | exact msg_rise.mono _ _ _ _ _ _ _
   | exact LeO.none _
   | refine LeO.ite ?_ ?_
   | refine LeO.bind ?_ (fun _ => ?_)
theorem msg_Right.mono : ∀ a0 a1 a2 a3 a4 a5 a6 k, LeO (msg_Right.f k a0 a1 a2 a3 a4 a5 a6) (msg_Right.f (k + 1) a0 a1 a2 a3 a4 a5 a6) := by
 intro a0 a1 a2 a3 a4 a5 a6 k
 have ih0 := msg_Right.mono_l k
 unfold msg_Right.f
 repeat' first
   | (with_reducible exact ih0 _ _ _ _ _ _ _ _ _ _)
   | (with_reducible exact msg_rise.mono _ _ _ _ _ _ _)
   | (with_reducible exact LeO.refl _)
   | (with_reducible exact LeO.none _)
   | (with_reducible refine LeO.ite ?_ ?_)
   | (with_reducible refine LeO.bind ?_ (fun _ => ?_))
   | exact ih0 _ _ _ _ _ _ _ _ _ _
   | exact msg_rise.mono _ _ _ _ _ _ _
   | exact LeO.none _
   | refine LeO.ite ?_ ?_
   | refine LeO.bind ?_ (fun _ => ?_)
def msg_Right.T4 : Bool × List (List Nat × List Nat) := (true, [([], []), ([0], [0]), ([1], [1]), ([2], [2]), ([3, 2], [2, 3]), ([4, 2, 2], [2, 4]), ([5, 2], [2, 5]), ([2, 6], [2, 6]), ([7, 5], [7]), ([8], [8]), ([9, 8], [8, 9]), ([10, 8, 8], [8, 10]), ([11, 8], [8, 11]), ([8, 12], [8, 12]), ([13, 11], [13]), ([14], [14]), ([15, 14], [14, 15]), ([16, 14, 14], [14, 16]), ([17, 14], [14, 17]), ([14, 18], [14, 18]), ([19, 17], [19]), ([20], [20]), ([21, 20], [20, 21]), ([22, 20, 20], [20, 22]), ([23], [23]), ([24, 23], [23, 24]), ([23], [23]), ([26, 23], [23, 26]), ([25, 27, 23], [23, 25, 27]), ([28, 23], [23, 28]), ([23], [23]), ([29, 30, 23, 23], [23, 29, 30]), ([31, 23], [23, 31]), ([23, 32, 20], [20, 23, 32]), ([20, 33], [20, 33])])
def msg_Right.B4 : List Nat := [0, 1, 3, 7, 15, 31, 63, 127, 255, 511, 1023, 2047, 4095, 8191, 16383, 32767, 65535, 131071, 262143, 524287, 1048575, 2097151, 4194303, 8388607, 16777215, 33554431, 16777215, 83886079, 268435455, 536870911, 16777215, 2147483647, 4294967295, 8589934591, 17179869183]
theorem msg_Right.tab4 : rtab .any (opsOf Tryd.f21 4) = msg_Right.T4 := by kernel_rfl
theorem msg_Right.bits4 : waitsOk msg_Right.T4.2 msg_Right.B4 = true := by kernel_rfl
set_option maxHeartbeats 8000000 in
set_option maxRecDepth 100000 in
theorem msg_Right.calls (k : Nat) (a0_0 : Int) (a0_1 : Int) (a0_2 : Int) (a0_3 : Int) (a0_4 : Int) (a0_5 : Int) (A0_6 : Option Addr) (c0_6 : Nat) (l0_6 : List (S35)) (r : Bool) (w : World) (hr0_6 : Kd.C k35 w A0_6 l0_6.length l0_6) (hc0_6 : l0_6.length ≤ c0_6) (h : msg_Right.f k a0_0 a0_1 a0_2 a0_3 a0_4 a0_5 l0_6 = some r) :
  Calls Tryd.prog 21 #[.agg #[.int .i64 a0_0, .int .i64 a0_1, .int .i64 a0_2, .int .i64 a0_3, .int .i64 a0_4, .int .i64 a0_5, .slice A0_6 l0_6.length c0_6]] w fun e w' => e = .returned (.bool r) ∧ Below w.heap.size w w' := by
 have hu31 := Tryd.underlying31
 have hu35 := Tryd.underlying35
 have HR0_6 := Aside0.mk hr0_6
 have HC0_6 := Aside0.mk hc0_6
 clear hr0_6 hc0_6
 have HB := Aside0.mk (Below.refl w.heap.size w)
 have H : (msg_Right.l0 k l0_6 (l0_6.length : Int) 0 a0_0 a0_1 a0_2 a0_3 a0_4 a0_5 l0_6) = some r := h
 clear h
 have H' := Aside0.mk H
 clear H
 go_enter Tryd.func21, Tryd.ntmps21
 go_wp2_with (first | ((with_reducible refine gate_dst (N := 1) rfl ?_); refine box_event ?hg (N := 1) ?hd (cs := #[.int .i64 a0_0, .int .i64 a0_1, .int .i64 a0_2, .int .i64 a0_3, .int .i64 a0_4, .int .i64 a0_5, .slice A0_6 l0_6.length c0_6]) (t := 31) ?hr ?_; (case hd => rfl); (case hg => rfl); (case hr => first | (go_simp; done) | (go_simp; rfl)); intro gbA hg w2 hbox hb; have n0_ := Aside0.mk (below_step (by repeat (first | (with_reducible first | exact HB.out | apply below_alloc | apply pw_below_drewN | apply below_drew1) | exact HB.out)) hb); have n1_ := Aside0.mk (hbox); have n2_ := Aside0.mk ((by rw [hg]; exact (below_size (by repeat (first | (with_reducible first | exact HB.out | apply below_alloc | apply pw_below_drewN | apply below_drew1) | exact HB.out))) : w.heap.size ≤ gbA)); have n3_ := Aside0.mk ((by rw [hg]; exact (below_size (by repeat (first | (with_reducible first | exact HB.out | apply below_alloc | apply pw_below_drewN | apply below_drew1) | exact HB.out))) : w.heap.size ≤ gbA)); clear HB; have HB := n0_; have BKA := n1_; have GWA := n2_; have GEA := n3_; clear n0_ n1_ n2_ n3_; clear hb hbox hg; have hcz3_0 : w2.cell? ⟨gbA, 0, none⟩ = some (.int .i64 a0_0) := (blk_cell BKA.out 0).trans rfl; have hcz3_1 : w2.cell? ⟨gbA, 1, none⟩ = some (.int .i64 a0_1) := (blk_cell BKA.out 1).trans rfl; have hcz3_2 : w2.cell? ⟨gbA, 2, none⟩ = some (.int .i64 a0_2) := (blk_cell BKA.out 2).trans rfl; have hcz3_3 : w2.cell? ⟨gbA, 3, none⟩ = some (.int .i64 a0_3) := (blk_cell BKA.out 3).trans rfl; have hcz3_4 : w2.cell? ⟨gbA, 4, none⟩ = some (.int .i64 a0_4) := (blk_cell BKA.out 4).trans rfl; have hcz3_5 : w2.cell? ⟨gbA, 5, none⟩ = some (.int .i64 a0_5) := (blk_cell BKA.out 5).trans rfl; have hcz3_6 : w2.cell? ⟨gbA, 6, none⟩ = some (.slice A0_6 l0_6.length c0_6) := (blk_cell BKA.out 6).trans rfl; have hfz3_0 := blk_frozen BKA.out 0; have hfz3_1 := blk_frozen BKA.out 1; have hfz3_2 := blk_frozen BKA.out 2; have hfz3_3 := blk_frozen BKA.out 3; have hfz3_4 := blk_frozen BKA.out 4; have hfz3_5 := blk_frozen BKA.out 5; have hfz3_6 := blk_frozen BKA.out 6))
 go_loopg [8] k (fun kq v8 w' => ∃ (x8_1 : Int), v8 = .int .i64 x8_1 ∧ Aside0 (msg_Right.l0 kq l0_6 (l0_6.length : Int) x8_1 a0_0 a0_1 a0_2 a0_3 a0_4 a0_5 l0_6 = some r) ∧ Aside0 (kq ≤ k) ∧ Aside0 (w'.heap[gbA]? = some (.cells #[.int .i64 a0_0, .int .i64 a0_1, .int .i64 a0_2, .int .i64 a0_3, .int .i64 a0_4, .int .i64 a0_5, (.slice A0_6 l0_6.length c0_6)] 31 (0, 0))) ∧ Aside0 (Below w.heap.size w w'))
 case atStart => exact ⟨(0), (by first | rfl | (simp; done) | (simp [*]; done)), H', ⟨Nat.le_refl _⟩, ⟨by (with_reducible repeat (first | refine blk_drewN ?_ _ | refine blk_drew ?_ | refine blk_alloc ?_ _)); exact BKA.out⟩, ⟨by repeat (first | (with_reducible first | exact HB.out | apply below_alloc | apply pw_below_drewN | apply below_drew1 | refine below_set ?_ GEA.out) | exact HB.out)⟩⟩
 case round =>
  clear H'
  try clear c2
  try clear p2
  try clear hcz3_0
  try clear hcz3_1
  try clear hcz3_2
  try clear hcz3_3
  try clear hcz3_4
  try clear hcz3_5
  try clear hcz3_6
  try clear hfz3_0
  try clear hfz3_1
  try clear hfz3_2
  try clear hfz3_3
  try clear hfz3_4
  try clear hfz3_5
  try clear hfz3_6
  obtain ⟨x8_1, rfl, HA, HK1, BKA, HB⟩ := hrel
  cases gk with
  | zero => exact absurd HA.out (by simp [msg_Right.l0])
  | succ k1 =>
   have H := HA.out
   clear HA
   simp only [msg_Right.l0] at H
   by_cases c4 : x8_1 < (l0_6.length : Int)
   ·rw [if_pos c4] at H
    have c4b0 : decide (x8_1 < (l0_6.length : Int)) = true := decide_eq_true c4
    clear c4
    by_cases c5 : 0 ≤ x8_1
    ·rw [if_pos c5] at H
     have c5b0 : decide (0 ≤ x8_1) = true := decide_eq_true c5
     clear c5
     by_cases c6 : x8_1 < (l0_6.length : Int)
     ·rw [if_pos c6] at H
      have c6b0 : decide (x8_1 < (l0_6.length : Int)) = true := decide_eq_true c6
      clear c6
      by_cases c7 : x8_1 = 64
      ·rw [if_pos c7] at H
       have c7b0 : (x8_1 == 64) = true := beq_iff_eq.mpr c7
       have c7b1 : (x8_1 != 64) = false := bne_eq_false_iff_eq.mpr c7
       clear c7
       obtain rfl := Option.some.inj H
       have pC : 0 ≤ (x8_1 : Int) := of_decide_eq_true (by first | (with_reducible assumption) | assumption)
       have qC : x8_1 < (l0_6.length : Int) := of_decide_eq_true (by first | (with_reducible assumption) | assumption)
       obtain ⟨adC, eC, hxC_0, hxC_1, hxC_2⟩ := at_T35 HR0_6.out x8_1 pC qC
       cases eC
       replace hxC_0 := (HB.out.cell (World.block_lt_of_cell? w _ hxC_0)).trans hxC_0
       replace hxC_1 := (HB.out.cell (World.block_lt_of_cell? w _ hxC_1)).trans hxC_1
       replace hxC_2 := (HB.out.cell (World.block_lt_of_cell? w _ hxC_2)).trans hxC_2
       replace pC := eq_true pC
       (try replace pCz := eq_true pCz)
       replace qC := eq_true qC
       (try replace qCz := eq_true qCz)
       try go_wp2_with (first | ((with_reducible refine gate_dst (N := 4) rfl ?_); refine box_event ?hg (N := 4) ?hd (cs := #[.string (⟨#[]⟩ : ByteArray), .string (⟨#[]⟩ : ByteArray), .int .i64 0]) (t := 35) ?hr ?_; (case hd => rfl); (case hg => rfl); (case hr => first | (go_simp; done) | (go_simp; rfl)); intro gbB hg w8 hbox hb; have n0_ := Aside0.mk (blk_below (g := gbA) (o := .cells #[.int .i64 a0_0, .int .i64 a0_1, .int .i64 a0_2, .int .i64 a0_3, .int .i64 a0_4, .int .i64 a0_5, .slice (some adC) l0_6.length c0_6] 31 (0, 0)) (by (with_reducible repeat (first | refine blk_drewN ?_ _ | refine blk_drew ?_ | refine blk_alloc ?_ _)); exact BKA.out) hb); have n1_ := Aside0.mk (below_step (by repeat (first | (with_reducible first | exact HB.out | apply below_alloc | apply pw_below_drewN | apply below_drew1 | refine below_set ?_ GEA.out) | exact HB.out)) hb); have n2_ := Aside0.mk (hbox); have n3_ := Aside0.mk ((by rw [hg]; exact (below_size (by repeat (first | (with_reducible first | exact HB.out | apply below_alloc | apply pw_below_drewN | apply below_drew1 | refine below_set ?_ GEA.out) | exact HB.out))) : w.heap.size ≤ gbB)); have n4_ := Aside0.mk ((by rw [hg]; exact (below_size (by repeat (first | (with_reducible first | exact HB.out | apply below_alloc | apply pw_below_drewN | apply below_drew1 | refine below_set ?_ GEA.out) | exact HB.out))) : w.heap.size ≤ gbB)); have n5_ := Aside0.mk ((by rw [hg]; exact Nat.ne_of_lt (blk_lt (g := gbA) (o := .cells #[.int .i64 a0_0, .int .i64 a0_1, .int .i64 a0_2, .int .i64 a0_3, .int .i64 a0_4, .int .i64 a0_5, .slice (some adC) l0_6.length c0_6] 31 (0, 0)) (by (with_reducible repeat (first | refine blk_drewN ?_ _ | refine blk_drew ?_ | refine blk_alloc ?_ _)); exact BKA.out)) : gbA ≠ gbB)); have n6_ := Aside0.mk ((by rw [hg]; exact Nat.ne_of_gt (blk_lt (g := gbA) (o := .cells #[.int .i64 a0_0, .int .i64 a0_1, .int .i64 a0_2, .int .i64 a0_3, .int .i64 a0_4, .int .i64 a0_5, .slice (some adC) l0_6.length c0_6] 31 (0, 0)) (by (with_reducible repeat (first | refine blk_drewN ?_ _ | refine blk_drew ?_ | refine blk_alloc ?_ _)); exact BKA.out)) : gbB ≠ gbA)); clear BKA; clear HB; have BKA := n0_; have HB := n1_; have BKB := n2_; have GWB := n3_; have GEB := n4_; have NBA_B := n5_; have NBB_A := n6_; clear n0_ n1_ n2_ n3_ n4_ n5_ n6_; clear hb hbox hg; have hnb9 := NBB_A.out; have hnc9 := NBA_B.out; have hcz10_0 : w8.cell? ⟨gbB, 0, none⟩ = some (.string (⟨#[]⟩ : ByteArray)) := (blk_cell BKB.out 0).trans rfl; have hcz10_1 : w8.cell? ⟨gbB, 1, none⟩ = some (.string (⟨#[]⟩ : ByteArray)) := (blk_cell BKB.out 1).trans rfl; have hcz10_2 : w8.cell? ⟨gbB, 2, none⟩ = some (.int .i64 0) := (blk_cell BKB.out 2).trans rfl; have hfz10_0 := blk_frozen BKB.out 0; have hfz10_1 := blk_frozen BKB.out 1; have hfz10_2 := blk_frozen BKB.out 2))
       have n0_ : Aside0 ((((w8.setCell ⟨gbB, 0, none⟩ (.string ((rd_T35 l0_6 x8_1).f0))).setCell ⟨gbB, 1, none⟩ (.string ((rd_T35 l0_6 x8_1).f1))).setCell ⟨gbB, 2, none⟩ (.int .i64 ((rd_T35 l0_6 x8_1).f2))).heap[gbA]? = some (.cells #[.int .i64 a0_0, .int .i64 a0_1, .int .i64 a0_2, .int .i64 a0_3, .int .i64 a0_4, .int .i64 a0_5, .slice (some adC) l0_6.length c0_6] 31 (0, 0))) := ⟨by (with_reducible repeat (first | refine blk_drewN ?_ _ | refine blk_drew ?_ | refine blk_alloc ?_ _)); refine blk_far ?_ NBA_B.out _; (with_reducible repeat (first | refine blk_drewN ?_ _ | refine blk_drew ?_ | refine blk_alloc ?_ _)); refine blk_far ?_ NBA_B.out _; (with_reducible repeat (first | refine blk_drewN ?_ _ | refine blk_drew ?_ | refine blk_alloc ?_ _)); refine blk_far ?_ NBA_B.out _; (with_reducible repeat (first | refine blk_drewN ?_ _ | refine blk_drew ?_ | refine blk_alloc ?_ _)); exact BKA.out⟩
       have n1_ : Aside0 ((((w8.setCell ⟨gbB, 0, none⟩ (.string ((rd_T35 l0_6 x8_1).f0))).setCell ⟨gbB, 1, none⟩ (.string ((rd_T35 l0_6 x8_1).f1))).setCell ⟨gbB, 2, none⟩ (.int .i64 ((rd_T35 l0_6 x8_1).f2))).heap[gbB]? = some (.cells #[.string ((rd_T35 l0_6 x8_1).f0), .string ((rd_T35 l0_6 x8_1).f1), .int .i64 ((rd_T35 l0_6 x8_1).f2)] 35 (0, 0))) := ⟨by (with_reducible repeat (first | refine blk_drewN ?_ _ | refine blk_drew ?_ | refine blk_alloc ?_ _)); refine blk_put (cs := #[.string ((rd_T35 l0_6 x8_1).f0), .string ((rd_T35 l0_6 x8_1).f1), .int .i64 0]) ?_ 2 _ rfl; (with_reducible repeat (first | refine blk_drewN ?_ _ | refine blk_drew ?_ | refine blk_alloc ?_ _)); refine blk_put (cs := #[.string ((rd_T35 l0_6 x8_1).f0), .string (⟨#[]⟩ : ByteArray), .int .i64 0]) ?_ 1 _ rfl; (with_reducible repeat (first | refine blk_drewN ?_ _ | refine blk_drew ?_ | refine blk_alloc ?_ _)); refine blk_put (cs := #[.string (⟨#[]⟩ : ByteArray), .string (⟨#[]⟩ : ByteArray), .int .i64 0]) ?_ 0 _ rfl; (with_reducible repeat (first | refine blk_drewN ?_ _ | refine blk_drew ?_ | refine blk_alloc ?_ _)); exact BKB.out⟩
       have n2_ : Aside0 (Below w.heap.size w (((w8.setCell ⟨gbB, 0, none⟩ (.string ((rd_T35 l0_6 x8_1).f0))).setCell ⟨gbB, 1, none⟩ (.string ((rd_T35 l0_6 x8_1).f1))).setCell ⟨gbB, 2, none⟩ (.int .i64 ((rd_T35 l0_6 x8_1).f2)))) := ⟨by repeat (first | (with_reducible first | exact HB.out | apply below_alloc | apply pw_below_drewN | apply below_drew1 | refine below_set ?_ GEA.out | refine below_set ?_ GEB.out) | exact HB.out)⟩
       (try clear BKA)
       (try clear BKB)
       (try clear HB)
       generalize (((w8.setCell ⟨gbB, 0, none⟩ (.string ((rd_T35 l0_6 x8_1).f0))).setCell ⟨gbB, 1, none⟩ (.string ((rd_T35 l0_6 x8_1).f1))).setCell ⟨gbB, 2, none⟩ (.int .i64 ((rd_T35 l0_6 x8_1).f2))) = w11 at n0_ n1_ n2_ ⊢
       have BKA := n0_
       have BKB := n1_
       have HB := n2_
       clear n0_ n1_ n2_
       have n0_ := Aside0.mk (blk_drew BKA.out)
       have n1_ := Aside0.mk (blk_drew BKB.out)
       have n2_ := Aside0.mk (below_drew1 HB.out)
       clear BKA
       clear BKB
       clear HB
       have BKA := n0_
       have BKB := n1_
       have HB := n2_
       clear n0_ n1_ n2_
       refine start_ (n := 35) (S := fun w' => True) (ds := []) (upT 35 0) (by kernel_rfl) rfl rfl trivial (fun hHeld => ?_); refine with_tabW msg_Right.tab4 msg_Right.bits4 (fun HT_ HW_ => ?_)
       generalize w11.drew = w12 at BKA BKB HB hHeld ⊢
       iterate 3 (refine pu 13 (v := ?_) (a' := ?_) rfl rfl (any_of HT_.out (by kernel_rfl)) (fun _ _ _ h => h) (Or.inl ⟨by rfl, ?_⟩) ?_ ?_; rotate_left; (·intro w'; go_simp; with_reducible rfl); rotate_left; (·simp only [Act.put, List.setIfInBounds_toArray, List.set_cons_zero, List.set_cons_succ, i64_w, i32_w, Nat.reduceAdd]; rfl); conv => arg 8; arg 2; simp only [Nat.reduceAdd])
       iterate 4 (refine pu 13 (v := undef) (a' := ?_) rfl rfl (any_of HT_.out (by kernel_rfl)) (fun _ _ _ h => h) (Or.inr ⟨by rfl, rfl⟩) ?_ ?_; rotate_left; (·simp only [Act.put, List.setIfInBounds_toArray, List.set_cons_zero, List.set_cons_succ, i64_w, i32_w, Nat.reduceAdd]; rfl); conv => arg 8; arg 2; simp only [Nat.reduceAdd])
       iterate 2 (refine pu 13 (v := ?_) (a' := ?_) rfl rfl (any_of HT_.out (by kernel_rfl)) (fun _ _ _ h => h) (Or.inl ⟨by rfl, ?_⟩) ?_ ?_; rotate_left; (·intro w'; go_simp; with_reducible rfl); rotate_left; (·simp only [Act.put, List.setIfInBounds_toArray, List.set_cons_zero, List.set_cons_succ, i64_w, i32_w, Nat.reduceAdd]; rfl); conv => arg 8; arg 2; simp only [Nat.reduceAdd])
       iterate 4 (refine pu 13 (v := undef) (a' := ?_) rfl rfl (any_of HT_.out (by kernel_rfl)) (fun _ _ _ h => h) (Or.inr ⟨by rfl, rfl⟩) ?_ ?_; rotate_left; (·simp only [Act.put, List.setIfInBounds_toArray, List.set_cons_zero, List.set_cons_succ, i64_w, i32_w, Nat.reduceAdd]; rfl); conv => arg 8; arg 2; simp only [Nat.reduceAdd])
       iterate 2 (refine pu 13 (v := ?_) (a' := ?_) rfl rfl (any_of HT_.out (by kernel_rfl)) (fun _ _ _ h => h) (Or.inl ⟨by rfl, ?_⟩) ?_ ?_; rotate_left; (·intro w'; go_simp; with_reducible rfl); rotate_left; (·simp only [Act.put, List.setIfInBounds_toArray, List.set_cons_zero, List.set_cons_succ, i64_w, i32_w, Nat.reduceAdd]; rfl); conv => arg 8; arg 2; simp only [Nat.reduceAdd])
       iterate 4 (refine pu 13 (v := undef) (a' := ?_) rfl rfl (any_of HT_.out (by kernel_rfl)) (fun _ _ _ h => h) (Or.inr ⟨by rfl, rfl⟩) ?_ ?_; rotate_left; (·simp only [Act.put, List.setIfInBounds_toArray, List.set_cons_zero, List.set_cons_succ, i64_w, i32_w, Nat.reduceAdd]; rfl); conv => arg 8; arg 2; simp only [Nat.reduceAdd])
       iterate 2 (refine pu 13 (v := ?_) (a' := ?_) rfl rfl (any_of HT_.out (by kernel_rfl)) (fun _ _ _ h => h) (Or.inl ⟨by rfl, ?_⟩) ?_ ?_; rotate_left; (·intro w'; go_simp; with_reducible rfl); rotate_left; (·simp only [Act.put, List.setIfInBounds_toArray, List.set_cons_zero, List.set_cons_succ, i64_w, i32_w, Nat.reduceAdd]; rfl); conv => arg 8; arg 2; simp only [Nat.reduceAdd])
       iterate 13 (refine pu 13 (v := undef) (a' := ?_) rfl rfl (any_of HT_.out (by kernel_rfl)) (fun _ _ _ h => h) (Or.inr ⟨by rfl, rfl⟩) ?_ ?_; rotate_left; (·simp only [Act.put, List.setIfInBounds_toArray, List.set_cons_zero, List.set_cons_succ, i64_w, i32_w, Nat.reduceAdd]; rfl); conv => arg 8; arg 2; simp only [Nat.reduceAdd])
       refine pu 13 (v := ?_) (a' := ?_) rfl rfl (any_of HT_.out (by kernel_rfl)) (fun _ _ _ h => h) (Or.inl ⟨by rfl, ?_⟩) ?_ ?_; rotate_left; (·intro w'; go_simp; with_reducible rfl); rotate_left; (·simp only [Act.put, List.setIfInBounds_toArray, List.set_cons_zero, List.set_cons_succ, i64_w, i32_w, Nat.reduceAdd]; rfl); conv => arg 8; arg 2; simp only [Nat.reduceAdd]
       refine done_ (done_of HT_.out (by kernel_rfl)) ?_
       try go_wp2
       go_ret
       exact ⟨by first | rfl | (simp [errW_none, errW_some] <;> rfl) | (simp [*, errW_none, errW_some] <;> rfl), by repeat (first | (with_reducible first | exact HB.out | apply below_alloc | apply pw_below_drewN | apply below_drew1 | refine below_set ?_ GEA.out | refine below_set ?_ GEB.out) | exact HB.out)⟩
      ·rw [if_neg c7] at H
       have c7b0 : (x8_1 == 64) = false := beq_eq_false_iff_ne.mpr c7
       have c7b1 : (x8_1 != 64) = true := bne_iff_ne.mpr c7
       replace H := Option.bind_eq_some_iff.mp H
       obtain ⟨tN, AV, H⟩ := H
       replace H : (if tN = true then ((label_IsName.f ((rd_T35 l0_6 x8_1).f1)).bind fun tK => (if tK = true then ((msg_within.f ((rd_T35 l0_6 x8_1).f2) 1 1000).bind fun tI => (if tI = true then (if x8_1 > 0 then (if 0 ≤ (wrap64 (x8_1 - 1)) then (if (wrap64 (x8_1 - 1)) < (l0_6.length : Int) then ((msg_rise.f k1 ((rd_T35 l0_6 (wrap64 (x8_1 - 1))).f0) ((rd_T35 l0_6 (wrap64 (x8_1 - 1))).f1) ((rd_T35 l0_6 (wrap64 (x8_1 - 1))).f2) ((rd_T35 l0_6 x8_1).f0) ((rd_T35 l0_6 x8_1).f1) ((rd_T35 l0_6 x8_1).f2)).bind fun tG => (if tG = true then (msg_Right.l0 k1 l0_6 (l0_6.length : Int) (wrap64 (x8_1 + 1)) a0_0 a0_1 a0_2 a0_3 a0_4 a0_5 l0_6) else (some false))) else (none)) else (none)) else (msg_Right.l0 k1 l0_6 (l0_6.length : Int) (wrap64 (x8_1 + 1)) a0_0 a0_1 a0_2 a0_3 a0_4 a0_5 l0_6)) else (some false))) else (some false))) else (some false)) = some r := H
       have A13 := Aside0.mk AV
       clear AV
       by_cases c14 : tN = true
       ·subst c14
        have H1 : ((label_IsName.f ((rd_T35 l0_6 x8_1).f1)).bind fun tK => (if tK = true then ((msg_within.f ((rd_T35 l0_6 x8_1).f2) 1 1000).bind fun tI => (if tI = true then (if x8_1 > 0 then (if 0 ≤ (wrap64 (x8_1 - 1)) then (if (wrap64 (x8_1 - 1)) < (l0_6.length : Int) then ((msg_rise.f k1 ((rd_T35 l0_6 (wrap64 (x8_1 - 1))).f0) ((rd_T35 l0_6 (wrap64 (x8_1 - 1))).f1) ((rd_T35 l0_6 (wrap64 (x8_1 - 1))).f2) ((rd_T35 l0_6 x8_1).f0) ((rd_T35 l0_6 x8_1).f1) ((rd_T35 l0_6 x8_1).f2)).bind fun tG => (if tG = true then (msg_Right.l0 k1 l0_6 (l0_6.length : Int) (wrap64 (x8_1 + 1)) a0_0 a0_1 a0_2 a0_3 a0_4 a0_5 l0_6) else (some false))) else (none)) else (none)) else (msg_Right.l0 k1 l0_6 (l0_6.length : Int) (wrap64 (x8_1 + 1)) a0_0 a0_1 a0_2 a0_3 a0_4 a0_5 l0_6)) else (some false))) else (some false))) = some r := by rw [if_pos rfl] at H; exact H
        clear H
        have H := H1
        clear H1
        replace H := Option.bind_eq_some_iff.mp H
        obtain ⟨tK, AW, H⟩ := H
        replace H : (if tK = true then ((msg_within.f ((rd_T35 l0_6 x8_1).f2) 1 1000).bind fun tI => (if tI = true then (if x8_1 > 0 then (if 0 ≤ (wrap64 (x8_1 - 1)) then (if (wrap64 (x8_1 - 1)) < (l0_6.length : Int) then ((msg_rise.f k1 ((rd_T35 l0_6 (wrap64 (x8_1 - 1))).f0) ((rd_T35 l0_6 (wrap64 (x8_1 - 1))).f1) ((rd_T35 l0_6 (wrap64 (x8_1 - 1))).f2) ((rd_T35 l0_6 x8_1).f0) ((rd_T35 l0_6 x8_1).f1) ((rd_T35 l0_6 x8_1).f2)).bind fun tG => (if tG = true then (msg_Right.l0 k1 l0_6 (l0_6.length : Int) (wrap64 (x8_1 + 1)) a0_0 a0_1 a0_2 a0_3 a0_4 a0_5 l0_6) else (some false))) else (none)) else (none)) else (msg_Right.l0 k1 l0_6 (l0_6.length : Int) (wrap64 (x8_1 + 1)) a0_0 a0_1 a0_2 a0_3 a0_4 a0_5 l0_6)) else (some false))) else (some false)) = some r := H
        have A15 := Aside0.mk AW
        clear AW
        by_cases c16 : tK = true
        ·subst c16
         have H1 : ((msg_within.f ((rd_T35 l0_6 x8_1).f2) 1 1000).bind fun tI => (if tI = true then (if x8_1 > 0 then (if 0 ≤ (wrap64 (x8_1 - 1)) then (if (wrap64 (x8_1 - 1)) < (l0_6.length : Int) then ((msg_rise.f k1 ((rd_T35 l0_6 (wrap64 (x8_1 - 1))).f0) ((rd_T35 l0_6 (wrap64 (x8_1 - 1))).f1) ((rd_T35 l0_6 (wrap64 (x8_1 - 1))).f2) ((rd_T35 l0_6 x8_1).f0) ((rd_T35 l0_6 x8_1).f1) ((rd_T35 l0_6 x8_1).f2)).bind fun tG => (if tG = true then (msg_Right.l0 k1 l0_6 (l0_6.length : Int) (wrap64 (x8_1 + 1)) a0_0 a0_1 a0_2 a0_3 a0_4 a0_5 l0_6) else (some false))) else (none)) else (none)) else (msg_Right.l0 k1 l0_6 (l0_6.length : Int) (wrap64 (x8_1 + 1)) a0_0 a0_1 a0_2 a0_3 a0_4 a0_5 l0_6)) else (some false))) = some r := by rw [if_pos rfl] at H; exact H
         clear H
         have H := H1
         clear H1
         replace H := Option.bind_eq_some_iff.mp H
         obtain ⟨tI, AX, H⟩ := H
         replace H : (if tI = true then (if x8_1 > 0 then (if 0 ≤ (wrap64 (x8_1 - 1)) then (if (wrap64 (x8_1 - 1)) < (l0_6.length : Int) then ((msg_rise.f k1 ((rd_T35 l0_6 (wrap64 (x8_1 - 1))).f0) ((rd_T35 l0_6 (wrap64 (x8_1 - 1))).f1) ((rd_T35 l0_6 (wrap64 (x8_1 - 1))).f2) ((rd_T35 l0_6 x8_1).f0) ((rd_T35 l0_6 x8_1).f1) ((rd_T35 l0_6 x8_1).f2)).bind fun tG => (if tG = true then (msg_Right.l0 k1 l0_6 (l0_6.length : Int) (wrap64 (x8_1 + 1)) a0_0 a0_1 a0_2 a0_3 a0_4 a0_5 l0_6) else (some false))) else (none)) else (none)) else (msg_Right.l0 k1 l0_6 (l0_6.length : Int) (wrap64 (x8_1 + 1)) a0_0 a0_1 a0_2 a0_3 a0_4 a0_5 l0_6)) else (some false)) = some r := H
         have A17 := Aside0.mk AX
         clear AX
         by_cases c18 : tI = true
         ·subst c18
          have H1 : (if x8_1 > 0 then (if 0 ≤ (wrap64 (x8_1 - 1)) then (if (wrap64 (x8_1 - 1)) < (l0_6.length : Int) then ((msg_rise.f k1 ((rd_T35 l0_6 (wrap64 (x8_1 - 1))).f0) ((rd_T35 l0_6 (wrap64 (x8_1 - 1))).f1) ((rd_T35 l0_6 (wrap64 (x8_1 - 1))).f2) ((rd_T35 l0_6 x8_1).f0) ((rd_T35 l0_6 x8_1).f1) ((rd_T35 l0_6 x8_1).f2)).bind fun tG => (if tG = true then (msg_Right.l0 k1 l0_6 (l0_6.length : Int) (wrap64 (x8_1 + 1)) a0_0 a0_1 a0_2 a0_3 a0_4 a0_5 l0_6) else (some false))) else (none)) else (none)) else (msg_Right.l0 k1 l0_6 (l0_6.length : Int) (wrap64 (x8_1 + 1)) a0_0 a0_1 a0_2 a0_3 a0_4 a0_5 l0_6)) = some r := by rw [if_pos rfl] at H; exact H
          clear H
          have H := H1
          clear H1
          by_cases c19 : x8_1 > 0
          ·rw [if_pos c19] at H
           have c19b0 : decide (0 < x8_1) = true := decide_eq_true c19
           clear c19
           obtain ⟨ji20, hji20⟩ : ∃ j_ : Int, (wrap64 (x8_1 - 1)) = j_ := ⟨_, rfl⟩
           replace H : (if 0 ≤ (ji20) then (if (ji20) < (l0_6.length : Int) then ((msg_rise.f k1 ((rd_T35 l0_6 (ji20)).f0) ((rd_T35 l0_6 (ji20)).f1) ((rd_T35 l0_6 (ji20)).f2) ((rd_T35 l0_6 x8_1).f0) ((rd_T35 l0_6 x8_1).f1) ((rd_T35 l0_6 x8_1).f2)).bind fun tG => (if tG = true then (msg_Right.l0 k1 l0_6 (l0_6.length : Int) (wrap64 (x8_1 + 1)) a0_0 a0_1 a0_2 a0_3 a0_4 a0_5 l0_6) else (some false))) else (none)) else (none)) = some r := by first | (rw [hji20] at H; exact H) | (simp only [hji20] at H ⊢; exact H)
           (try rw [hji20] at A13)
           (try rw [hji20] at A15)
           (try rw [hji20] at A17)
           have hji20w : (IntKind.i64.wrap (x8_1 - 1)) = ji20 := (i64_w _).trans hji20
           by_cases c21 : 0 ≤ (ji20)
           ·rw [if_pos c21] at H
            have c21b0 : decide (0 ≤ (ji20)) = true := decide_eq_true c21
            clear c21
            by_cases c22 : (ji20) < (l0_6.length : Int)
            ·rw [if_pos c22] at H
             have c22b0 : decide ((ji20) < (l0_6.length : Int)) = true := decide_eq_true c22
             clear c22
             replace H := Option.bind_eq_some_iff.mp H
             obtain ⟨tG, AY, H⟩ := H
             replace H : (if tG = true then (msg_Right.l0 k1 l0_6 (l0_6.length : Int) (wrap64 (x8_1 + 1)) a0_0 a0_1 a0_2 a0_3 a0_4 a0_5 l0_6) else (some false)) = some r := H
             have A23 := Aside0.mk AY
             clear AY
             by_cases c24 : tG = true
             ·subst c24
              have H1 : (msg_Right.l0 k1 l0_6 (l0_6.length : Int) (wrap64 (x8_1 + 1)) a0_0 a0_1 a0_2 a0_3 a0_4 a0_5 l0_6) = some r := by rw [if_pos rfl] at H; exact H
              clear H
              have H := H1
              clear H1
              have H' := Aside0.mk H
              clear H
              have pC : 0 ≤ (x8_1 : Int) := of_decide_eq_true (by first | (with_reducible assumption) | assumption)
              have qC : x8_1 < (l0_6.length : Int) := of_decide_eq_true (by first | (with_reducible assumption) | assumption)
              obtain ⟨adC, eC, hxC_0, hxC_1, hxC_2⟩ := at_T35 HR0_6.out x8_1 pC qC
              cases eC
              replace hxC_0 := (HB.out.cell (World.block_lt_of_cell? w _ hxC_0)).trans hxC_0
              replace hxC_1 := (HB.out.cell (World.block_lt_of_cell? w _ hxC_1)).trans hxC_1
              replace hxC_2 := (HB.out.cell (World.block_lt_of_cell? w _ hxC_2)).trans hxC_2
              replace pC := eq_true pC
              (try replace pCz := eq_true pCz)
              replace qC := eq_true qC
              (try replace qCz := eq_true qCz)
              try go_wp2_with (first | ((with_reducible refine gate_dst (N := 4) rfl ?_); refine box_event ?hg (N := 4) ?hd (cs := #[.string (⟨#[]⟩ : ByteArray), .string (⟨#[]⟩ : ByteArray), .int .i64 0]) (t := 35) ?hr ?_; (case hd => rfl); (case hg => rfl); (case hr => first | (go_simp; done) | (go_simp; rfl)); intro gbB hg w25 hbox hb; have n0_ := Aside0.mk (blk_below (g := gbA) (o := .cells #[.int .i64 a0_0, .int .i64 a0_1, .int .i64 a0_2, .int .i64 a0_3, .int .i64 a0_4, .int .i64 a0_5, .slice (some adC) l0_6.length c0_6] 31 (0, 0)) (by (with_reducible repeat (first | refine blk_drewN ?_ _ | refine blk_drew ?_ | refine blk_alloc ?_ _)); exact BKA.out) hb); have n1_ := Aside0.mk (below_step (by repeat (first | (with_reducible first | exact HB.out | apply below_alloc | apply pw_below_drewN | apply below_drew1 | refine below_set ?_ GEA.out) | exact HB.out)) hb); have n2_ := Aside0.mk (hbox); have n3_ := Aside0.mk ((by rw [hg]; exact (below_size (by repeat (first | (with_reducible first | exact HB.out | apply below_alloc | apply pw_below_drewN | apply below_drew1 | refine below_set ?_ GEA.out) | exact HB.out))) : w.heap.size ≤ gbB)); have n4_ := Aside0.mk ((by rw [hg]; exact (below_size (by repeat (first | (with_reducible first | exact HB.out | apply below_alloc | apply pw_below_drewN | apply below_drew1 | refine below_set ?_ GEA.out) | exact HB.out))) : w.heap.size ≤ gbB)); have n5_ := Aside0.mk ((by rw [hg]; exact Nat.ne_of_lt (blk_lt (g := gbA) (o := .cells #[.int .i64 a0_0, .int .i64 a0_1, .int .i64 a0_2, .int .i64 a0_3, .int .i64 a0_4, .int .i64 a0_5, .slice (some adC) l0_6.length c0_6] 31 (0, 0)) (by (with_reducible repeat (first | refine blk_drewN ?_ _ | refine blk_drew ?_ | refine blk_alloc ?_ _)); exact BKA.out)) : gbA ≠ gbB)); have n6_ := Aside0.mk ((by rw [hg]; exact Nat.ne_of_gt (blk_lt (g := gbA) (o := .cells #[.int .i64 a0_0, .int .i64 a0_1, .int .i64 a0_2, .int .i64 a0_3, .int .i64 a0_4, .int .i64 a0_5, .slice (some adC) l0_6.length c0_6] 31 (0, 0)) (by (with_reducible repeat (first | refine blk_drewN ?_ _ | refine blk_drew ?_ | refine blk_alloc ?_ _)); exact BKA.out)) : gbB ≠ gbA)); clear BKA; clear HB; have BKA := n0_; have HB := n1_; have BKB := n2_; have GWB := n3_; have GEB := n4_; have NBA_B := n5_; have NBB_A := n6_; clear n0_ n1_ n2_ n3_ n4_ n5_ n6_; clear hb hbox hg; have hnb26 := NBB_A.out; have hnc26 := NBA_B.out; have hcz27_0 : w25.cell? ⟨gbB, 0, none⟩ = some (.string (⟨#[]⟩ : ByteArray)) := (blk_cell BKB.out 0).trans rfl; have hcz27_1 : w25.cell? ⟨gbB, 1, none⟩ = some (.string (⟨#[]⟩ : ByteArray)) := (blk_cell BKB.out 1).trans rfl; have hcz27_2 : w25.cell? ⟨gbB, 2, none⟩ = some (.int .i64 0) := (blk_cell BKB.out 2).trans rfl; have hfz27_0 := blk_frozen BKB.out 0; have hfz27_1 := blk_frozen BKB.out 1; have hfz27_2 := blk_frozen BKB.out 2))
              have n0_ : Aside0 ((((w25.setCell ⟨gbB, 0, none⟩ (.string ((rd_T35 l0_6 x8_1).f0))).setCell ⟨gbB, 1, none⟩ (.string ((rd_T35 l0_6 x8_1).f1))).setCell ⟨gbB, 2, none⟩ (.int .i64 ((rd_T35 l0_6 x8_1).f2))).heap[gbA]? = some (.cells #[.int .i64 a0_0, .int .i64 a0_1, .int .i64 a0_2, .int .i64 a0_3, .int .i64 a0_4, .int .i64 a0_5, .slice (some adC) l0_6.length c0_6] 31 (0, 0))) := ⟨by (with_reducible repeat (first | refine blk_drewN ?_ _ | refine blk_drew ?_ | refine blk_alloc ?_ _)); refine blk_far ?_ NBA_B.out _; (with_reducible repeat (first | refine blk_drewN ?_ _ | refine blk_drew ?_ | refine blk_alloc ?_ _)); refine blk_far ?_ NBA_B.out _; (with_reducible repeat (first | refine blk_drewN ?_ _ | refine blk_drew ?_ | refine blk_alloc ?_ _)); refine blk_far ?_ NBA_B.out _; (with_reducible repeat (first | refine blk_drewN ?_ _ | refine blk_drew ?_ | refine blk_alloc ?_ _)); exact BKA.out⟩
              have n1_ : Aside0 ((((w25.setCell ⟨gbB, 0, none⟩ (.string ((rd_T35 l0_6 x8_1).f0))).setCell ⟨gbB, 1, none⟩ (.string ((rd_T35 l0_6 x8_1).f1))).setCell ⟨gbB, 2, none⟩ (.int .i64 ((rd_T35 l0_6 x8_1).f2))).heap[gbB]? = some (.cells #[.string ((rd_T35 l0_6 x8_1).f0), .string ((rd_T35 l0_6 x8_1).f1), .int .i64 ((rd_T35 l0_6 x8_1).f2)] 35 (0, 0))) := ⟨by (with_reducible repeat (first | refine blk_drewN ?_ _ | refine blk_drew ?_ | refine blk_alloc ?_ _)); refine blk_put (cs := #[.string ((rd_T35 l0_6 x8_1).f0), .string ((rd_T35 l0_6 x8_1).f1), .int .i64 0]) ?_ 2 _ rfl; (with_reducible repeat (first | refine blk_drewN ?_ _ | refine blk_drew ?_ | refine blk_alloc ?_ _)); refine blk_put (cs := #[.string ((rd_T35 l0_6 x8_1).f0), .string (⟨#[]⟩ : ByteArray), .int .i64 0]) ?_ 1 _ rfl; (with_reducible repeat (first | refine blk_drewN ?_ _ | refine blk_drew ?_ | refine blk_alloc ?_ _)); refine blk_put (cs := #[.string (⟨#[]⟩ : ByteArray), .string (⟨#[]⟩ : ByteArray), .int .i64 0]) ?_ 0 _ rfl; (with_reducible repeat (first | refine blk_drewN ?_ _ | refine blk_drew ?_ | refine blk_alloc ?_ _)); exact BKB.out⟩
              have n2_ : Aside0 (Below w.heap.size w (((w25.setCell ⟨gbB, 0, none⟩ (.string ((rd_T35 l0_6 x8_1).f0))).setCell ⟨gbB, 1, none⟩ (.string ((rd_T35 l0_6 x8_1).f1))).setCell ⟨gbB, 2, none⟩ (.int .i64 ((rd_T35 l0_6 x8_1).f2)))) := ⟨by repeat (first | (with_reducible first | exact HB.out | apply below_alloc | apply pw_below_drewN | apply below_drew1 | refine below_set ?_ GEA.out | refine below_set ?_ GEB.out) | exact HB.out)⟩
              (try clear BKA)
              (try clear BKB)
              (try clear HB)
              generalize (((w25.setCell ⟨gbB, 0, none⟩ (.string ((rd_T35 l0_6 x8_1).f0))).setCell ⟨gbB, 1, none⟩ (.string ((rd_T35 l0_6 x8_1).f1))).setCell ⟨gbB, 2, none⟩ (.int .i64 ((rd_T35 l0_6 x8_1).f2))) = w28 at n0_ n1_ n2_ ⊢
              have BKA := n0_
              have BKB := n1_
              have HB := n2_
              clear n0_ n1_ n2_
              have n0_ := Aside0.mk (blk_drew BKA.out)
              have n1_ := Aside0.mk (blk_drew BKB.out)
              have n2_ := Aside0.mk (below_drew1 HB.out)
              clear BKA
              clear BKB
              clear HB
              have BKA := n0_
              have BKB := n1_
              have HB := n2_
              clear n0_ n1_ n2_
              have pD : 0 ≤ ((ji20) : Int) := of_decide_eq_true (by first | (with_reducible assumption) | assumption)
              have qD : (ji20) < (l0_6.length : Int) := of_decide_eq_true (by first | (with_reducible assumption) | assumption)
              obtain ⟨adD, eD, hxD_0, hxD_1, hxD_2⟩ := at_T35 HR0_6.out (ji20) pD qD
              have hwD_2 := hxD_2
              have hwD_1 := hxD_1
              have hwD_0 := hxD_0
              obtain rfl : adC = adD := (by injection eD)
              replace hxD_0 := (HB.out.cell (World.block_lt_of_cell? w _ hxD_0)).trans hxD_0
              replace hxD_1 := (HB.out.cell (World.block_lt_of_cell? w _ hxD_1)).trans hxD_1
              replace hxD_2 := (HB.out.cell (World.block_lt_of_cell? w _ hxD_2)).trans hxD_2
              replace pD := eq_true pD
              (try replace pDz := eq_true pDz)
              replace qD := eq_true qD
              (try replace qDz := eq_true qDz)
              refine start_ (n := 35) (S := fun w' => w'.cell? ⟨gbB, 0, none⟩ = some (.string ((rd_T35 l0_6 x8_1).f0)) ∧ w'.cell? ⟨gbB, 1, none⟩ = some (.string ((rd_T35 l0_6 x8_1).f1)) ∧ w'.cell? ⟨gbB, 2, none⟩ = some (.int .i64 ((rd_T35 l0_6 x8_1).f2)) ∧ w'.cell? ⟨gbA, 0, none⟩ = some (.int .i64 a0_0) ∧ w'.cell? ⟨gbA, 1, none⟩ = some (.int .i64 a0_1) ∧ w'.cell? ⟨gbA, 2, none⟩ = some (.int .i64 a0_2) ∧ w'.cell? ⟨gbA, 3, none⟩ = some (.int .i64 a0_3) ∧ w'.cell? ⟨gbA, 4, none⟩ = some (.int .i64 a0_4) ∧ w'.cell? ⟨gbA, 5, none⟩ = some (.int .i64 a0_5) ∧ w'.cell? ⟨gbA, 6, none⟩ = some (.slice (some adC) l0_6.length c0_6) ∧ w'.cell? (adC.add (((ji20)).toNat * 3)) = some (.string ((rd_T35 l0_6 (ji20)).f0)) ∧ w'.cell? ⟨(adC.add (((ji20)).toNat * 3)).block, (adC.add (((ji20)).toNat * 3)).off + 1, none⟩ = some (.string ((rd_T35 l0_6 (ji20)).f1)) ∧ w'.cell? ⟨(adC.add (((ji20)).toNat * 3)).block, (adC.add (((ji20)).toNat * 3)).off + 2, none⟩ = some (.int .i64 ((rd_T35 l0_6 (ji20)).f2))) (ds := []) (upT 35 0) (by kernel_rfl) rfl rfl ⟨(blk_cell BKB.out 0).trans rfl, (blk_cell BKB.out 1).trans rfl, (blk_cell BKB.out 2).trans rfl, (blk_cell BKA.out 0).trans rfl, (blk_cell BKA.out 1).trans rfl, (blk_cell BKA.out 2).trans rfl, (blk_cell BKA.out 3).trans rfl, (blk_cell BKA.out 4).trans rfl, (blk_cell BKA.out 5).trans rfl, (blk_cell BKA.out 6).trans rfl, ((HB.out.cell (World.block_lt_of_cell? w _ hwD_0)).trans hwD_0), ((HB.out.cell (World.block_lt_of_cell? w _ hwD_1)).trans hwD_1), ((HB.out.cell (World.block_lt_of_cell? w _ hwD_2)).trans hwD_2)⟩ (fun hHeld => ?_); refine with_tabW msg_Right.tab4 msg_Right.bits4 (fun HT_ HW_ => ?_)
              generalize w28.drew = w29 at BKA BKB HB hxD_0 hxD_1 hxD_2 hHeld ⊢
              iterate 4 (refine pu 13 (v := ?_) (a' := ?_) rfl rfl (any_of HT_.out (by kernel_rfl)) (fun _ _ _ h => h) (Or.inl ⟨by rfl, ?_⟩) ?_ ?_; rotate_left; (·intro w'; go_simp; with_reducible rfl); rotate_left; (·simp only [Act.put, List.setIfInBounds_toArray, List.set_cons_zero, List.set_cons_succ, i64_w, i32_w, Nat.reduceAdd]; rfl); conv => arg 8; arg 2; simp only [Nat.reduceAdd])
              refine take_ (i := 4) (N := some 17) (v := ?_) (a' := ?_) (upT 35 5) rfl rfl (take_ofW HT_.out HW_.out (by kernel_rfl)) (fun _ _ _ h => h) (Or.inl ⟨by rfl, ?_⟩) hHeld ?_ ?_
              rotate_left
              ·rintro w' ⟨s0, s1, s2, s3, s4, s5, s6, s7, s8, s9, s10, s11, s12⟩
               go_simp
               with_reducible rfl
              rotate_left
              ·simp only [Act.put, List.setIfInBounds_toArray, List.set_cons_zero, List.set_cons_succ, i64_w, i32_w]
               rfl
              refine one_ (i := 5) (N := some 18) (upT 35 6) rfl rfl (one_of HT_.out (by kernel_rfl)) (by decide) (fun K hK => ?_)
              refine goes_ Tryd.func29 (by kernel_rfl) rfl #[.string ((rd_T35 l0_6 x8_1).f0)] (by rfl) rfl rfl (by (try simp only [List.map_toArray, List.map_cons, List.map_nil]); first | done | rfl | (simp only [List.length_drop, List.length_take]; rfl)) ?_
              with_reducible refine (label_IsName.calls ((rd_T35 l0_6 x8_1).f0) true _ A13.out).mono ?_
              rintro e w30 ⟨rfl, hb⟩
              refine ⟨_, rfl, ?_⟩
              have n0_ := Aside0.mk (blk_below (g := gbA) (o := .cells #[.int .i64 a0_0, .int .i64 a0_1, .int .i64 a0_2, .int .i64 a0_3, .int .i64 a0_4, .int .i64 a0_5, .slice (some adC) l0_6.length c0_6] 31 (0, 0)) (by (with_reducible repeat (first | refine blk_drewN ?_ _ | refine blk_drew ?_ | refine blk_alloc ?_ _)); exact BKA.out) hb)
              have n1_ := Aside0.mk (blk_below (g := gbB) (o := .cells #[.string ((rd_T35 l0_6 x8_1).f0), .string ((rd_T35 l0_6 x8_1).f1), .int .i64 ((rd_T35 l0_6 x8_1).f2)] 35 (0, 0)) (by (with_reducible repeat (first | refine blk_drewN ?_ _ | refine blk_drew ?_ | refine blk_alloc ?_ _)); exact BKB.out) hb)
              have n2_ := Aside0.mk (below_step (by repeat (first | (with_reducible first | exact HB.out | apply below_alloc | apply pw_below_drewN | apply below_drew1 | refine below_set ?_ GEA.out | refine below_set ?_ GEB.out) | exact HB.out)) hb)
              clear BKA
              clear BKB
              clear HB
              have BKA := n0_
              have BKB := n1_
              have HB := n2_
              clear n0_ n1_ n2_
              (try clear hb)
              (try clear hb2)
              (try clear hk)
              (try clear hi)
              (try clear hge)
              refine hK.out _ _ ⟨(blk_cell BKB.out 0).trans rfl, (blk_cell BKB.out 1).trans rfl, (blk_cell BKB.out 2).trans rfl, (blk_cell BKA.out 0).trans rfl, (blk_cell BKA.out 1).trans rfl, (blk_cell BKA.out 2).trans rfl, (blk_cell BKA.out 3).trans rfl, (blk_cell BKA.out 4).trans rfl, (blk_cell BKA.out 5).trans rfl, (blk_cell BKA.out 6).trans rfl, ((HB.out.cell (World.block_lt_of_cell? w _ hwD_0)).trans hwD_0), ((HB.out.cell (World.block_lt_of_cell? w _ hwD_1)).trans hwD_1), ((HB.out.cell (World.block_lt_of_cell? w _ hwD_2)).trans hwD_2)⟩ (fun hHeld => ?_)
              clear hK K
              refine norm_ (a' := ?_) ?_ ?_
              rotate_left
              ·show Act.put _ (some 18) _ = _
               simp only [Act.put, List.setIfInBounds_toArray, List.set_cons_zero, List.set_cons_succ, i64_w, i32_w]
               rfl
              iterate 4 (refine pu 13 (v := ?_) (a' := ?_) rfl rfl (any_of HT_.out (by kernel_rfl)) (fun _ _ _ h => h) (Or.inl ⟨by rfl, ?_⟩) ?_ ?_; rotate_left; (·intro w'; go_simp; with_reducible rfl); rotate_left; (·simp only [Act.put, List.setIfInBounds_toArray, List.set_cons_zero, List.set_cons_succ, i64_w, i32_w, Nat.reduceAdd]; rfl); conv => arg 8; arg 2; simp only [Nat.reduceAdd])
              refine take_ (i := 10) (N := some 23) (v := ?_) (a' := ?_) (upT 35 11) rfl rfl (take_ofW HT_.out HW_.out (by kernel_rfl)) (fun _ _ _ h => h) (Or.inl ⟨by rfl, ?_⟩) hHeld ?_ ?_
              rotate_left
              ·rintro w' ⟨s0, s1, s2, s3, s4, s5, s6, s7, s8, s9, s10, s11, s12⟩
               go_simp
               with_reducible rfl
              rotate_left
              ·simp only [Act.put, List.setIfInBounds_toArray, List.set_cons_zero, List.set_cons_succ, i64_w, i32_w]
               rfl
              refine one_ (i := 11) (N := some 24) (upT 35 12) rfl rfl (one_of HT_.out (by kernel_rfl)) (by decide) (fun K hK => ?_)
              refine goes_ Tryd.func29 (by kernel_rfl) rfl #[.string ((rd_T35 l0_6 x8_1).f1)] (by rfl) rfl rfl (by (try simp only [List.map_toArray, List.map_cons, List.map_nil]); first | done | rfl | (simp only [List.length_drop, List.length_take]; rfl)) ?_
              with_reducible refine (label_IsName.calls ((rd_T35 l0_6 x8_1).f1) true _ A15.out).mono ?_
              rintro e w31 ⟨rfl, hb⟩
              refine ⟨_, rfl, ?_⟩
              have n0_ := Aside0.mk (blk_below (g := gbA) (o := .cells #[.int .i64 a0_0, .int .i64 a0_1, .int .i64 a0_2, .int .i64 a0_3, .int .i64 a0_4, .int .i64 a0_5, .slice (some adC) l0_6.length c0_6] 31 (0, 0)) (by (with_reducible repeat (first | refine blk_drewN ?_ _ | refine blk_drew ?_ | refine blk_alloc ?_ _)); exact BKA.out) hb)
              have n1_ := Aside0.mk (blk_below (g := gbB) (o := .cells #[.string ((rd_T35 l0_6 x8_1).f0), .string ((rd_T35 l0_6 x8_1).f1), .int .i64 ((rd_T35 l0_6 x8_1).f2)] 35 (0, 0)) (by (with_reducible repeat (first | refine blk_drewN ?_ _ | refine blk_drew ?_ | refine blk_alloc ?_ _)); exact BKB.out) hb)
              have n2_ := Aside0.mk (below_step (by repeat (first | (with_reducible first | exact HB.out | apply below_alloc | apply pw_below_drewN | apply below_drew1 | refine below_set ?_ GEA.out | refine below_set ?_ GEB.out) | exact HB.out)) hb)
              clear BKA
              clear BKB
              clear HB
              have BKA := n0_
              have BKB := n1_
              have HB := n2_
              clear n0_ n1_ n2_
              (try clear hb)
              (try clear hb2)
              (try clear hk)
              (try clear hi)
              (try clear hge)
              refine hK.out _ _ ⟨(blk_cell BKB.out 0).trans rfl, (blk_cell BKB.out 1).trans rfl, (blk_cell BKB.out 2).trans rfl, (blk_cell BKA.out 0).trans rfl, (blk_cell BKA.out 1).trans rfl, (blk_cell BKA.out 2).trans rfl, (blk_cell BKA.out 3).trans rfl, (blk_cell BKA.out 4).trans rfl, (blk_cell BKA.out 5).trans rfl, (blk_cell BKA.out 6).trans rfl, ((HB.out.cell (World.block_lt_of_cell? w _ hwD_0)).trans hwD_0), ((HB.out.cell (World.block_lt_of_cell? w _ hwD_1)).trans hwD_1), ((HB.out.cell (World.block_lt_of_cell? w _ hwD_2)).trans hwD_2)⟩ (fun hHeld => ?_)
              clear hK K
              refine norm_ (a' := ?_) ?_ ?_
              rotate_left
              ·show Act.put _ (some 24) _ = _
               simp only [Act.put, List.setIfInBounds_toArray, List.set_cons_zero, List.set_cons_succ, i64_w, i32_w]
               rfl
              iterate 4 (refine pu 13 (v := ?_) (a' := ?_) rfl rfl (any_of HT_.out (by kernel_rfl)) (fun _ _ _ h => h) (Or.inl ⟨by rfl, ?_⟩) ?_ ?_; rotate_left; (·intro w'; go_simp; with_reducible rfl); rotate_left; (·simp only [Act.put, List.setIfInBounds_toArray, List.set_cons_zero, List.set_cons_succ, i64_w, i32_w, Nat.reduceAdd]; rfl); conv => arg 8; arg 2; simp only [Nat.reduceAdd])
              refine take_ (i := 16) (N := some 29) (v := ?_) (a' := ?_) (upT 35 17) rfl rfl (take_ofW HT_.out HW_.out (by kernel_rfl)) (fun _ _ _ h => h) (Or.inl ⟨by rfl, ?_⟩) hHeld ?_ ?_
              rotate_left
              ·rintro w' ⟨s0, s1, s2, s3, s4, s5, s6, s7, s8, s9, s10, s11, s12⟩
               go_simp
               with_reducible rfl
              rotate_left
              ·simp only [Act.put, List.setIfInBounds_toArray, List.set_cons_zero, List.set_cons_succ, i64_w, i32_w]
               rfl
              refine one_ (i := 17) (N := some 30) (upT 35 18) rfl rfl (one_of HT_.out (by kernel_rfl)) (by decide) (fun K hK => ?_)
              refine goes_ Tryd.func30 (by kernel_rfl) rfl #[.int .i64 ((rd_T35 l0_6 x8_1).f2), .int .i64 1, .int .i64 1000] (by rfl) rfl rfl (by (try simp only [List.map_toArray, List.map_cons, List.map_nil]); first | done | rfl | (simp only [List.length_drop, List.length_take]; rfl)) ?_
              with_reducible refine (msg_within.calls ((rd_T35 l0_6 x8_1).f2) 1 1000 true _ A17.out).mono ?_
              rintro e w' ⟨rfl, ⟨nd, rfl⟩⟩
              refine ⟨_, rfl, ?_⟩
              refine hK.out _ _ ⟨(blk_cell BKB.out 0).trans rfl, (blk_cell BKB.out 1).trans rfl, (blk_cell BKB.out 2).trans rfl, (blk_cell BKA.out 0).trans rfl, (blk_cell BKA.out 1).trans rfl, (blk_cell BKA.out 2).trans rfl, (blk_cell BKA.out 3).trans rfl, (blk_cell BKA.out 4).trans rfl, (blk_cell BKA.out 5).trans rfl, (blk_cell BKA.out 6).trans rfl, ((HB.out.cell (World.block_lt_of_cell? w _ hwD_0)).trans hwD_0), ((HB.out.cell (World.block_lt_of_cell? w _ hwD_1)).trans hwD_1), ((HB.out.cell (World.block_lt_of_cell? w _ hwD_2)).trans hwD_2)⟩ (fun hHeld => ?_)
              clear hK K
              refine norm_ (a' := ?_) ?_ ?_
              rotate_left
              ·show Act.put _ (some 30) _ = _
               simp only [Act.put, List.setIfInBounds_toArray, List.set_cons_zero, List.set_cons_succ, i64_w, i32_w]
               rfl
              iterate 7 (refine pu 13 (v := ?_) (a' := ?_) rfl rfl (any_of HT_.out (by kernel_rfl)) (fun _ _ _ h => h) (Or.inl ⟨by rfl, ?_⟩) ?_ ?_; rotate_left; (·intro w'; go_simp; with_reducible rfl); rotate_left; (·simp only [Act.put, List.setIfInBounds_toArray, List.set_cons_zero, List.set_cons_succ, i64_w, i32_w, Nat.reduceAdd]; rfl); conv => arg 8; arg 2; simp only [Nat.reduceAdd])
              refine pure_ (i := 26) (N := some 39) (v := ?_) (a' := ?_) #[true, true, true, true, true, true, true, true, true, true, true, true, true, true, true, true, true, true, true, true, true, true, true, true, true, false, true, false, false, false, false, false, false, false, false] rfl rfl (any_of HT_.out (by kernel_rfl)) (fun _ _ _ h => h) (Or.inl ⟨by rfl, ?_⟩) ?_ ?_
              rotate_left
              ·intro w'
               go_simp
               with_reducible rfl
              rotate_left
              ·simp only [Act.put, List.setIfInBounds_toArray, List.set_cons_zero, List.set_cons_succ, i64_w, i32_w]
               rfl
              refine pure_ (i := 27) (N := some 40) (v := ?_) (a' := ?_) #[true, true, true, true, true, true, true, true, true, true, true, true, true, true, true, true, true, true, true, true, true, true, true, true, true, false, true, true, false, false, false, false, false, false, false] rfl rfl (any_of HT_.out (by kernel_rfl)) (fun _ _ _ h => h) (Or.inl ⟨by rfl, ?_⟩) ?_ ?_
              rotate_left
              ·intro w'
               go_simp
               with_reducible rfl
              rotate_left
              ·simp only [Act.put, List.setIfInBounds_toArray, List.set_cons_zero, List.set_cons_succ, i64_w, i32_w]
               rfl
              refine take_ (i := 25) (N := some 38) (v := ?_) (a' := ?_) (upT 35 28) rfl rfl (take_ofW HT_.out HW_.out (by kernel_rfl)) (fun _ _ _ h => h) (Or.inl ⟨by rfl, ?_⟩) hHeld ?_ ?_
              rotate_left
              ·rintro w' ⟨s0, s1, s2, s3, s4, s5, s6, s7, s8, s9, s10, s11, s12⟩
               go_simp
               with_reducible rfl
              rotate_left
              ·simp only [Act.put, List.setIfInBounds_toArray, List.set_cons_zero, List.set_cons_succ, i64_w, i32_w]
               rfl
              refine pu 13 (v := ?_) (a' := ?_) rfl rfl (any_of HT_.out (by kernel_rfl)) (fun _ _ _ h => h) (Or.inl ⟨by rfl, ?_⟩) ?_ ?_; rotate_left; (·intro w'; go_simp; with_reducible rfl); rotate_left; (·simp only [Act.put, List.setIfInBounds_toArray, List.set_cons_zero, List.set_cons_succ, i64_w, i32_w, Nat.reduceAdd]; rfl); conv => arg 8; arg 2; simp only [Nat.reduceAdd]
              refine take_ (i := 29) (N := some 42) (v := ?_) (a' := ?_) (upT 35 30) rfl rfl (take_ofW HT_.out HW_.out (by kernel_rfl)) (fun _ _ _ h => h) (Or.inl ⟨by rfl, ?_⟩) hHeld ?_ ?_
              rotate_left
              ·rintro w' ⟨s0, s1, s2, s3, s4, s5, s6, s7, s8, s9, s10, s11, s12⟩
               go_simp
               with_reducible rfl
              rotate_left
              ·simp only [Act.put, List.setIfInBounds_toArray, List.set_cons_zero, List.set_cons_succ, i64_w, i32_w]
               rfl
              refine take_ (i := 30) (N := some 43) (v := ?_) (a' := ?_) (upT 35 31) rfl rfl (take_ofW HT_.out HW_.out (by kernel_rfl)) (fun _ _ _ h => h) (Or.inl ⟨by rfl, ?_⟩) hHeld ?_ ?_
              rotate_left
              ·rintro w' ⟨s0, s1, s2, s3, s4, s5, s6, s7, s8, s9, s10, s11, s12⟩
               go_simp
               with_reducible rfl
              rotate_left
              ·simp only [Act.put, List.setIfInBounds_toArray, List.set_cons_zero, List.set_cons_succ, i64_w, i32_w]
               rfl
              refine one_ (i := 31) (N := some 44) (upT 35 32) rfl rfl (one_of HT_.out (by kernel_rfl)) (by decide) (fun K hK => ?_)
              refine goes_ Tryd.func31 (by kernel_rfl) rfl #[.agg #[.string ((rd_T35 l0_6 (ji20)).f0), .string ((rd_T35 l0_6 (ji20)).f1), .int .i64 ((rd_T35 l0_6 (ji20)).f2)], .agg #[.string ((rd_T35 l0_6 x8_1).f0), .string ((rd_T35 l0_6 x8_1).f1), .int .i64 ((rd_T35 l0_6 x8_1).f2)]] (by rfl) rfl rfl (by (try simp only [List.map_toArray, List.map_cons, List.map_nil]); first | done | (simp only [hji20]; rfl) | rfl | (simp only [List.length_drop, List.length_take]; rfl)) ?_
              with_reducible refine (msg_rise.calls k1 ((rd_T35 l0_6 (ji20)).f0) ((rd_T35 l0_6 (ji20)).f1) ((rd_T35 l0_6 (ji20)).f2) ((rd_T35 l0_6 x8_1).f0) ((rd_T35 l0_6 x8_1).f1) ((rd_T35 l0_6 x8_1).f2) true _ A23.out).mono ?_
              rintro e w32 ⟨rfl, hb⟩
              refine ⟨_, rfl, ?_⟩
              have n0_ := Aside0.mk (blk_below (g := gbA) (o := .cells #[.int .i64 a0_0, .int .i64 a0_1, .int .i64 a0_2, .int .i64 a0_3, .int .i64 a0_4, .int .i64 a0_5, .slice (some adC) l0_6.length c0_6] 31 (0, 0)) (by (with_reducible repeat (first | refine blk_drewN ?_ _ | refine blk_drew ?_ | refine blk_alloc ?_ _)); exact BKA.out) hb)
              have n1_ := Aside0.mk (blk_below (g := gbB) (o := .cells #[.string ((rd_T35 l0_6 x8_1).f0), .string ((rd_T35 l0_6 x8_1).f1), .int .i64 ((rd_T35 l0_6 x8_1).f2)] 35 (0, 0)) (by (with_reducible repeat (first | refine blk_drewN ?_ _ | refine blk_drew ?_ | refine blk_alloc ?_ _)); exact BKB.out) hb)
              have n2_ := Aside0.mk (below_step (by repeat (first | (with_reducible first | exact HB.out | apply below_alloc | apply pw_below_drewN | apply below_drew1 | refine below_set ?_ GEA.out | refine below_set ?_ GEB.out) | exact HB.out)) hb)
              clear BKA
              clear BKB
              clear HB
              have BKA := n0_
              have BKB := n1_
              have HB := n2_
              clear n0_ n1_ n2_
              (try clear hb)
              (try clear hb2)
              (try clear hk)
              (try clear hi)
              (try clear hge)
              refine hK.out _ _ ⟨(blk_cell BKB.out 0).trans rfl, (blk_cell BKB.out 1).trans rfl, (blk_cell BKB.out 2).trans rfl, (blk_cell BKA.out 0).trans rfl, (blk_cell BKA.out 1).trans rfl, (blk_cell BKA.out 2).trans rfl, (blk_cell BKA.out 3).trans rfl, (blk_cell BKA.out 4).trans rfl, (blk_cell BKA.out 5).trans rfl, (blk_cell BKA.out 6).trans rfl, ((HB.out.cell (World.block_lt_of_cell? w _ hwD_0)).trans hwD_0), ((HB.out.cell (World.block_lt_of_cell? w _ hwD_1)).trans hwD_1), ((HB.out.cell (World.block_lt_of_cell? w _ hwD_2)).trans hwD_2)⟩ (fun hHeld => ?_)
              clear hK K
              refine norm_ (a' := ?_) ?_ ?_
              rotate_left
              ·show Act.put _ (some 44) _ = _
               simp only [Act.put, List.setIfInBounds_toArray, List.set_cons_zero, List.set_cons_succ, i64_w, i32_w]
               rfl
              iterate 3 (refine pu 13 (v := ?_) (a' := ?_) rfl rfl (any_of HT_.out (by kernel_rfl)) (fun _ _ _ h => h) (Or.inl ⟨by rfl, ?_⟩) ?_ ?_; rotate_left; (·intro w'; go_simp; with_reducible rfl); rotate_left; (·simp only [Act.put, List.setIfInBounds_toArray, List.set_cons_zero, List.set_cons_succ, i64_w, i32_w, Nat.reduceAdd]; rfl); conv => arg 8; arg 2; simp only [Nat.reduceAdd])
              refine done_ (done_of HT_.out (by kernel_rfl)) ?_
              try go_wp2
              go_roundg k1
              case measure => have := HK1.out; omega
              case rel => exact ⟨(wrap64 (x8_1 + 1)), (by first | rfl | (simp; done) | (simp [*]; done)), H', ⟨by have := HK1.out; omega⟩, ⟨by (with_reducible repeat (first | refine blk_drewN ?_ _ | refine blk_drew ?_ | refine blk_alloc ?_ _)); exact BKA.out⟩, ⟨by repeat (first | (with_reducible first | exact HB.out | apply below_alloc | apply pw_below_drewN | apply below_drew1 | refine below_set ?_ GEA.out | refine below_set ?_ GEB.out) | exact HB.out)⟩⟩
             ·replace c24 := Bool.eq_false_iff.mpr c24
              subst c24
              have H1 : (some false) = some r := by rw [if_neg (show ¬ (false = true) by decide)] at H; exact H
              clear H
              have H := H1
              clear H1
              obtain rfl := Option.some.inj H
              have pC : 0 ≤ (x8_1 : Int) := of_decide_eq_true (by first | (with_reducible assumption) | assumption)
              have qC : x8_1 < (l0_6.length : Int) := of_decide_eq_true (by first | (with_reducible assumption) | assumption)
              obtain ⟨adC, eC, hxC_0, hxC_1, hxC_2⟩ := at_T35 HR0_6.out x8_1 pC qC
              cases eC
              replace hxC_0 := (HB.out.cell (World.block_lt_of_cell? w _ hxC_0)).trans hxC_0
              replace hxC_1 := (HB.out.cell (World.block_lt_of_cell? w _ hxC_1)).trans hxC_1
              replace hxC_2 := (HB.out.cell (World.block_lt_of_cell? w _ hxC_2)).trans hxC_2
              replace pC := eq_true pC
              (try replace pCz := eq_true pCz)
              replace qC := eq_true qC
              (try replace qCz := eq_true qCz)
              try go_wp2_with (first | ((with_reducible refine gate_dst (N := 4) rfl ?_); refine box_event ?hg (N := 4) ?hd (cs := #[.string (⟨#[]⟩ : ByteArray), .string (⟨#[]⟩ : ByteArray), .int .i64 0]) (t := 35) ?hr ?_; (case hd => rfl); (case hg => rfl); (case hr => first | (go_simp; done) | (go_simp; rfl)); intro gbB hg w33 hbox hb; have n0_ := Aside0.mk (blk_below (g := gbA) (o := .cells #[.int .i64 a0_0, .int .i64 a0_1, .int .i64 a0_2, .int .i64 a0_3, .int .i64 a0_4, .int .i64 a0_5, .slice (some adC) l0_6.length c0_6] 31 (0, 0)) (by (with_reducible repeat (first | refine blk_drewN ?_ _ | refine blk_drew ?_ | refine blk_alloc ?_ _)); exact BKA.out) hb); have n1_ := Aside0.mk (below_step (by repeat (first | (with_reducible first | exact HB.out | apply below_alloc | apply pw_below_drewN | apply below_drew1 | refine below_set ?_ GEA.out) | exact HB.out)) hb); have n2_ := Aside0.mk (hbox); have n3_ := Aside0.mk ((by rw [hg]; exact (below_size (by repeat (first | (with_reducible first | exact HB.out | apply below_alloc | apply pw_below_drewN | apply below_drew1 | refine below_set ?_ GEA.out) | exact HB.out))) : w.heap.size ≤ gbB)); have n4_ := Aside0.mk ((by rw [hg]; exact (below_size (by repeat (first | (with_reducible first | exact HB.out | apply below_alloc | apply pw_below_drewN | apply below_drew1 | refine below_set ?_ GEA.out) | exact HB.out))) : w.heap.size ≤ gbB)); have n5_ := Aside0.mk ((by rw [hg]; exact Nat.ne_of_lt (blk_lt (g := gbA) (o := .cells #[.int .i64 a0_0, .int .i64 a0_1, .int .i64 a0_2, .int .i64 a0_3, .int .i64 a0_4, .int .i64 a0_5, .slice (some adC) l0_6.length c0_6] 31 (0, 0)) (by (with_reducible repeat (first | refine blk_drewN ?_ _ | refine blk_drew ?_ | refine blk_alloc ?_ _)); exact BKA.out)) : gbA ≠ gbB)); have n6_ := Aside0.mk ((by rw [hg]; exact Nat.ne_of_gt (blk_lt (g := gbA) (o := .cells #[.int .i64 a0_0, .int .i64 a0_1, .int .i64 a0_2, .int .i64 a0_3, .int .i64 a0_4, .int .i64 a0_5, .slice (some adC) l0_6.length c0_6] 31 (0, 0)) (by (with_reducible repeat (first | refine blk_drewN ?_ _ | refine blk_drew ?_ | refine blk_alloc ?_ _)); exact BKA.out)) : gbB ≠ gbA)); clear BKA; clear HB; have BKA := n0_; have HB := n1_; have BKB := n2_; have GWB := n3_; have GEB := n4_; have NBA_B := n5_; have NBB_A := n6_; clear n0_ n1_ n2_ n3_ n4_ n5_ n6_; clear hb hbox hg; have hnb34 := NBB_A.out; have hnc34 := NBA_B.out; have hcz35_0 : w33.cell? ⟨gbB, 0, none⟩ = some (.string (⟨#[]⟩ : ByteArray)) := (blk_cell BKB.out 0).trans rfl; have hcz35_1 : w33.cell? ⟨gbB, 1, none⟩ = some (.string (⟨#[]⟩ : ByteArray)) := (blk_cell BKB.out 1).trans rfl; have hcz35_2 : w33.cell? ⟨gbB, 2, none⟩ = some (.int .i64 0) := (blk_cell BKB.out 2).trans rfl; have hfz35_0 := blk_frozen BKB.out 0; have hfz35_1 := blk_frozen BKB.out 1; have hfz35_2 := blk_frozen BKB.out 2))
              have n0_ : Aside0 ((((w33.setCell ⟨gbB, 0, none⟩ (.string ((rd_T35 l0_6 x8_1).f0))).setCell ⟨gbB, 1, none⟩ (.string ((rd_T35 l0_6 x8_1).f1))).setCell ⟨gbB, 2, none⟩ (.int .i64 ((rd_T35 l0_6 x8_1).f2))).heap[gbA]? = some (.cells #[.int .i64 a0_0, .int .i64 a0_1, .int .i64 a0_2, .int .i64 a0_3, .int .i64 a0_4, .int .i64 a0_5, .slice (some adC) l0_6.length c0_6] 31 (0, 0))) := ⟨by (with_reducible repeat (first | refine blk_drewN ?_ _ | refine blk_drew ?_ | refine blk_alloc ?_ _)); refine blk_far ?_ NBA_B.out _; (with_reducible repeat (first | refine blk_drewN ?_ _ | refine blk_drew ?_ | refine blk_alloc ?_ _)); refine blk_far ?_ NBA_B.out _; (with_reducible repeat (first | refine blk_drewN ?_ _ | refine blk_drew ?_ | refine blk_alloc ?_ _)); refine blk_far ?_ NBA_B.out _; (with_reducible repeat (first | refine blk_drewN ?_ _ | refine blk_drew ?_ | refine blk_alloc ?_ _)); exact BKA.out⟩
              have n1_ : Aside0 ((((w33.setCell ⟨gbB, 0, none⟩ (.string ((rd_T35 l0_6 x8_1).f0))).setCell ⟨gbB, 1, none⟩ (.string ((rd_T35 l0_6 x8_1).f1))).setCell ⟨gbB, 2, none⟩ (.int .i64 ((rd_T35 l0_6 x8_1).f2))).heap[gbB]? = some (.cells #[.string ((rd_T35 l0_6 x8_1).f0), .string ((rd_T35 l0_6 x8_1).f1), .int .i64 ((rd_T35 l0_6 x8_1).f2)] 35 (0, 0))) := ⟨by (with_reducible repeat (first | refine blk_drewN ?_ _ | refine blk_drew ?_ | refine blk_alloc ?_ _)); refine blk_put (cs := #[.string ((rd_T35 l0_6 x8_1).f0), .string ((rd_T35 l0_6 x8_1).f1), .int .i64 0]) ?_ 2 _ rfl; (with_reducible repeat (first | refine blk_drewN ?_ _ | refine blk_drew ?_ | refine blk_alloc ?_ _)); refine blk_put (cs := #[.string ((rd_T35 l0_6 x8_1).f0), .string (⟨#[]⟩ : ByteArray), .int .i64 0]) ?_ 1 _ rfl; (with_reducible repeat (first | refine blk_drewN ?_ _ | refine blk_drew ?_ | refine blk_alloc ?_ _)); refine blk_put (cs := #[.string (⟨#[]⟩ : ByteArray), .string (⟨#[]⟩ : ByteArray), .int .i64 0]) ?_ 0 _ rfl; (with_reducible repeat (first | refine blk_drewN ?_ _ | refine blk_drew ?_ | refine blk_alloc ?_ _)); exact BKB.out⟩
              have n2_ : Aside0 (Below w.heap.size w (((w33.setCell ⟨gbB, 0, none⟩ (.string ((rd_T35 l0_6 x8_1).f0))).setCell ⟨gbB, 1, none⟩ (.string ((rd_T35 l0_6 x8_1).f1))).setCell ⟨gbB, 2, none⟩ (.int .i64 ((rd_T35 l0_6 x8_1).f2)))) := ⟨by repeat (first | (with_reducible first | exact HB.out | apply below_alloc | apply pw_below_drewN | apply below_drew1 | refine below_set ?_ GEA.out | refine below_set ?_ GEB.out) | exact HB.out)⟩
              (try clear BKA)
              (try clear BKB)
              (try clear HB)
              generalize (((w33.setCell ⟨gbB, 0, none⟩ (.string ((rd_T35 l0_6 x8_1).f0))).setCell ⟨gbB, 1, none⟩ (.string ((rd_T35 l0_6 x8_1).f1))).setCell ⟨gbB, 2, none⟩ (.int .i64 ((rd_T35 l0_6 x8_1).f2))) = w36 at n0_ n1_ n2_ ⊢
              have BKA := n0_
              have BKB := n1_
              have HB := n2_
              clear n0_ n1_ n2_
              have n0_ := Aside0.mk (blk_drew BKA.out)
              have n1_ := Aside0.mk (blk_drew BKB.out)
              have n2_ := Aside0.mk (below_drew1 HB.out)
              clear BKA
              clear BKB
              clear HB
              have BKA := n0_
              have BKB := n1_
              have HB := n2_
              clear n0_ n1_ n2_
              have pD : 0 ≤ ((ji20) : Int) := of_decide_eq_true (by first | (with_reducible assumption) | assumption)
              have qD : (ji20) < (l0_6.length : Int) := of_decide_eq_true (by first | (with_reducible assumption) | assumption)
              obtain ⟨adD, eD, hxD_0, hxD_1, hxD_2⟩ := at_T35 HR0_6.out (ji20) pD qD
              have hwD_2 := hxD_2
              have hwD_1 := hxD_1
              have hwD_0 := hxD_0
              obtain rfl : adC = adD := (by injection eD)
              replace hxD_0 := (HB.out.cell (World.block_lt_of_cell? w _ hxD_0)).trans hxD_0
              replace hxD_1 := (HB.out.cell (World.block_lt_of_cell? w _ hxD_1)).trans hxD_1
              replace hxD_2 := (HB.out.cell (World.block_lt_of_cell? w _ hxD_2)).trans hxD_2
              replace pD := eq_true pD
              (try replace pDz := eq_true pDz)
              replace qD := eq_true qD
              (try replace qDz := eq_true qDz)
              refine start_ (n := 35) (S := fun w' => w'.cell? ⟨gbB, 0, none⟩ = some (.string ((rd_T35 l0_6 x8_1).f0)) ∧ w'.cell? ⟨gbB, 1, none⟩ = some (.string ((rd_T35 l0_6 x8_1).f1)) ∧ w'.cell? ⟨gbB, 2, none⟩ = some (.int .i64 ((rd_T35 l0_6 x8_1).f2)) ∧ w'.cell? ⟨gbA, 0, none⟩ = some (.int .i64 a0_0) ∧ w'.cell? ⟨gbA, 1, none⟩ = some (.int .i64 a0_1) ∧ w'.cell? ⟨gbA, 2, none⟩ = some (.int .i64 a0_2) ∧ w'.cell? ⟨gbA, 3, none⟩ = some (.int .i64 a0_3) ∧ w'.cell? ⟨gbA, 4, none⟩ = some (.int .i64 a0_4) ∧ w'.cell? ⟨gbA, 5, none⟩ = some (.int .i64 a0_5) ∧ w'.cell? ⟨gbA, 6, none⟩ = some (.slice (some adC) l0_6.length c0_6) ∧ w'.cell? (adC.add (((ji20)).toNat * 3)) = some (.string ((rd_T35 l0_6 (ji20)).f0)) ∧ w'.cell? ⟨(adC.add (((ji20)).toNat * 3)).block, (adC.add (((ji20)).toNat * 3)).off + 1, none⟩ = some (.string ((rd_T35 l0_6 (ji20)).f1)) ∧ w'.cell? ⟨(adC.add (((ji20)).toNat * 3)).block, (adC.add (((ji20)).toNat * 3)).off + 2, none⟩ = some (.int .i64 ((rd_T35 l0_6 (ji20)).f2))) (ds := []) (upT 35 0) (by kernel_rfl) rfl rfl ⟨(blk_cell BKB.out 0).trans rfl, (blk_cell BKB.out 1).trans rfl, (blk_cell BKB.out 2).trans rfl, (blk_cell BKA.out 0).trans rfl, (blk_cell BKA.out 1).trans rfl, (blk_cell BKA.out 2).trans rfl, (blk_cell BKA.out 3).trans rfl, (blk_cell BKA.out 4).trans rfl, (blk_cell BKA.out 5).trans rfl, (blk_cell BKA.out 6).trans rfl, ((HB.out.cell (World.block_lt_of_cell? w _ hwD_0)).trans hwD_0), ((HB.out.cell (World.block_lt_of_cell? w _ hwD_1)).trans hwD_1), ((HB.out.cell (World.block_lt_of_cell? w _ hwD_2)).trans hwD_2)⟩ (fun hHeld => ?_); refine with_tabW msg_Right.tab4 msg_Right.bits4 (fun HT_ HW_ => ?_)
              generalize w36.drew = w37 at BKA BKB HB hxD_0 hxD_1 hxD_2 hHeld ⊢
              iterate 4 (refine pu 13 (v := ?_) (a' := ?_) rfl rfl (any_of HT_.out (by kernel_rfl)) (fun _ _ _ h => h) (Or.inl ⟨by rfl, ?_⟩) ?_ ?_; rotate_left; (·intro w'; go_simp; with_reducible rfl); rotate_left; (·simp only [Act.put, List.setIfInBounds_toArray, List.set_cons_zero, List.set_cons_succ, i64_w, i32_w, Nat.reduceAdd]; rfl); conv => arg 8; arg 2; simp only [Nat.reduceAdd])
              refine take_ (i := 4) (N := some 17) (v := ?_) (a' := ?_) (upT 35 5) rfl rfl (take_ofW HT_.out HW_.out (by kernel_rfl)) (fun _ _ _ h => h) (Or.inl ⟨by rfl, ?_⟩) hHeld ?_ ?_
              rotate_left
              ·rintro w' ⟨s0, s1, s2, s3, s4, s5, s6, s7, s8, s9, s10, s11, s12⟩
               go_simp
               with_reducible rfl
              rotate_left
              ·simp only [Act.put, List.setIfInBounds_toArray, List.set_cons_zero, List.set_cons_succ, i64_w, i32_w]
               rfl
              refine one_ (i := 5) (N := some 18) (upT 35 6) rfl rfl (one_of HT_.out (by kernel_rfl)) (by decide) (fun K hK => ?_)
              refine goes_ Tryd.func29 (by kernel_rfl) rfl #[.string ((rd_T35 l0_6 x8_1).f0)] (by rfl) rfl rfl (by (try simp only [List.map_toArray, List.map_cons, List.map_nil]); first | done | rfl | (simp only [List.length_drop, List.length_take]; rfl)) ?_
              with_reducible refine (label_IsName.calls ((rd_T35 l0_6 x8_1).f0) true _ A13.out).mono ?_
              rintro e w38 ⟨rfl, hb⟩
              refine ⟨_, rfl, ?_⟩
              have n0_ := Aside0.mk (blk_below (g := gbA) (o := .cells #[.int .i64 a0_0, .int .i64 a0_1, .int .i64 a0_2, .int .i64 a0_3, .int .i64 a0_4, .int .i64 a0_5, .slice (some adC) l0_6.length c0_6] 31 (0, 0)) (by (with_reducible repeat (first | refine blk_drewN ?_ _ | refine blk_drew ?_ | refine blk_alloc ?_ _)); exact BKA.out) hb)
              have n1_ := Aside0.mk (blk_below (g := gbB) (o := .cells #[.string ((rd_T35 l0_6 x8_1).f0), .string ((rd_T35 l0_6 x8_1).f1), .int .i64 ((rd_T35 l0_6 x8_1).f2)] 35 (0, 0)) (by (with_reducible repeat (first | refine blk_drewN ?_ _ | refine blk_drew ?_ | refine blk_alloc ?_ _)); exact BKB.out) hb)
              have n2_ := Aside0.mk (below_step (by repeat (first | (with_reducible first | exact HB.out | apply below_alloc | apply pw_below_drewN | apply below_drew1 | refine below_set ?_ GEA.out | refine below_set ?_ GEB.out) | exact HB.out)) hb)
              clear BKA
              clear BKB
              clear HB
              have BKA := n0_
              have BKB := n1_
              have HB := n2_
              clear n0_ n1_ n2_
              (try clear hb)
              (try clear hb2)
              (try clear hk)
              (try clear hi)
              (try clear hge)
              refine hK.out _ _ ⟨(blk_cell BKB.out 0).trans rfl, (blk_cell BKB.out 1).trans rfl, (blk_cell BKB.out 2).trans rfl, (blk_cell BKA.out 0).trans rfl, (blk_cell BKA.out 1).trans rfl, (blk_cell BKA.out 2).trans rfl, (blk_cell BKA.out 3).trans rfl, (blk_cell BKA.out 4).trans rfl, (blk_cell BKA.out 5).trans rfl, (blk_cell BKA.out 6).trans rfl, ((HB.out.cell (World.block_lt_of_cell? w _ hwD_0)).trans hwD_0), ((HB.out.cell (World.block_lt_of_cell? w _ hwD_1)).trans hwD_1), ((HB.out.cell (World.block_lt_of_cell? w _ hwD_2)).trans hwD_2)⟩ (fun hHeld => ?_)
              clear hK K
              refine norm_ (a' := ?_) ?_ ?_
              rotate_left
              ·show Act.put _ (some 18) _ = _
               simp only [Act.put, List.setIfInBounds_toArray, List.set_cons_zero, List.set_cons_succ, i64_w, i32_w]
               rfl
              iterate 4 (refine pu 13 (v := ?_) (a' := ?_) rfl rfl (any_of HT_.out (by kernel_rfl)) (fun _ _ _ h => h) (Or.inl ⟨by rfl, ?_⟩) ?_ ?_; rotate_left; (·intro w'; go_simp; with_reducible rfl); rotate_left; (·simp only [Act.put, List.setIfInBounds_toArray, List.set_cons_zero, List.set_cons_succ, i64_w, i32_w, Nat.reduceAdd]; rfl); conv => arg 8; arg 2; simp only [Nat.reduceAdd])
              refine take_ (i := 10) (N := some 23) (v := ?_) (a' := ?_) (upT 35 11) rfl rfl (take_ofW HT_.out HW_.out (by kernel_rfl)) (fun _ _ _ h => h) (Or.inl ⟨by rfl, ?_⟩) hHeld ?_ ?_
              rotate_left
              ·rintro w' ⟨s0, s1, s2, s3, s4, s5, s6, s7, s8, s9, s10, s11, s12⟩
               go_simp
               with_reducible rfl
              rotate_left
              ·simp only [Act.put, List.setIfInBounds_toArray, List.set_cons_zero, List.set_cons_succ, i64_w, i32_w]
               rfl
              refine one_ (i := 11) (N := some 24) (upT 35 12) rfl rfl (one_of HT_.out (by kernel_rfl)) (by decide) (fun K hK => ?_)
              refine goes_ Tryd.func29 (by kernel_rfl) rfl #[.string ((rd_T35 l0_6 x8_1).f1)] (by rfl) rfl rfl (by (try simp only [List.map_toArray, List.map_cons, List.map_nil]); first | done | rfl | (simp only [List.length_drop, List.length_take]; rfl)) ?_
              with_reducible refine (label_IsName.calls ((rd_T35 l0_6 x8_1).f1) true _ A15.out).mono ?_
              rintro e w39 ⟨rfl, hb⟩
              refine ⟨_, rfl, ?_⟩
              have n0_ := Aside0.mk (blk_below (g := gbA) (o := .cells #[.int .i64 a0_0, .int .i64 a0_1, .int .i64 a0_2, .int .i64 a0_3, .int .i64 a0_4, .int .i64 a0_5, .slice (some adC) l0_6.length c0_6] 31 (0, 0)) (by (with_reducible repeat (first | refine blk_drewN ?_ _ | refine blk_drew ?_ | refine blk_alloc ?_ _)); exact BKA.out) hb)
              have n1_ := Aside0.mk (blk_below (g := gbB) (o := .cells #[.string ((rd_T35 l0_6 x8_1).f0), .string ((rd_T35 l0_6 x8_1).f1), .int .i64 ((rd_T35 l0_6 x8_1).f2)] 35 (0, 0)) (by (with_reducible repeat (first | refine blk_drewN ?_ _ | refine blk_drew ?_ | refine blk_alloc ?_ _)); exact BKB.out) hb)
              have n2_ := Aside0.mk (below_step (by repeat (first | (with_reducible first | exact HB.out | apply below_alloc | apply pw_below_drewN | apply below_drew1 | refine below_set ?_ GEA.out | refine below_set ?_ GEB.out) | exact HB.out)) hb)
              clear BKA
              clear BKB
              clear HB
              have BKA := n0_
              have BKB := n1_
              have HB := n2_
              clear n0_ n1_ n2_
              (try clear hb)
              (try clear hb2)
              (try clear hk)
              (try clear hi)
              (try clear hge)
              refine hK.out _ _ ⟨(blk_cell BKB.out 0).trans rfl, (blk_cell BKB.out 1).trans rfl, (blk_cell BKB.out 2).trans rfl, (blk_cell BKA.out 0).trans rfl, (blk_cell BKA.out 1).trans rfl, (blk_cell BKA.out 2).trans rfl, (blk_cell BKA.out 3).trans rfl, (blk_cell BKA.out 4).trans rfl, (blk_cell BKA.out 5).trans rfl, (blk_cell BKA.out 6).trans rfl, ((HB.out.cell (World.block_lt_of_cell? w _ hwD_0)).trans hwD_0), ((HB.out.cell (World.block_lt_of_cell? w _ hwD_1)).trans hwD_1), ((HB.out.cell (World.block_lt_of_cell? w _ hwD_2)).trans hwD_2)⟩ (fun hHeld => ?_)
              clear hK K
              refine norm_ (a' := ?_) ?_ ?_
              rotate_left
              ·show Act.put _ (some 24) _ = _
               simp only [Act.put, List.setIfInBounds_toArray, List.set_cons_zero, List.set_cons_succ, i64_w, i32_w]
               rfl
              iterate 4 (refine pu 13 (v := ?_) (a' := ?_) rfl rfl (any_of HT_.out (by kernel_rfl)) (fun _ _ _ h => h) (Or.inl ⟨by rfl, ?_⟩) ?_ ?_; rotate_left; (·intro w'; go_simp; with_reducible rfl); rotate_left; (·simp only [Act.put, List.setIfInBounds_toArray, List.set_cons_zero, List.set_cons_succ, i64_w, i32_w, Nat.reduceAdd]; rfl); conv => arg 8; arg 2; simp only [Nat.reduceAdd])
              refine take_ (i := 16) (N := some 29) (v := ?_) (a' := ?_) (upT 35 17) rfl rfl (take_ofW HT_.out HW_.out (by kernel_rfl)) (fun _ _ _ h => h) (Or.inl ⟨by rfl, ?_⟩) hHeld ?_ ?_
              rotate_left
              ·rintro w' ⟨s0, s1, s2, s3, s4, s5, s6, s7, s8, s9, s10, s11, s12⟩
               go_simp
               with_reducible rfl
              rotate_left
              ·simp only [Act.put, List.setIfInBounds_toArray, List.set_cons_zero, List.set_cons_succ, i64_w, i32_w]
               rfl
              refine one_ (i := 17) (N := some 30) (upT 35 18) rfl rfl (one_of HT_.out (by kernel_rfl)) (by decide) (fun K hK => ?_)
              refine goes_ Tryd.func30 (by kernel_rfl) rfl #[.int .i64 ((rd_T35 l0_6 x8_1).f2), .int .i64 1, .int .i64 1000] (by rfl) rfl rfl (by (try simp only [List.map_toArray, List.map_cons, List.map_nil]); first | done | rfl | (simp only [List.length_drop, List.length_take]; rfl)) ?_
              with_reducible refine (msg_within.calls ((rd_T35 l0_6 x8_1).f2) 1 1000 true _ A17.out).mono ?_
              rintro e w' ⟨rfl, ⟨nd, rfl⟩⟩
              refine ⟨_, rfl, ?_⟩
              refine hK.out _ _ ⟨(blk_cell BKB.out 0).trans rfl, (blk_cell BKB.out 1).trans rfl, (blk_cell BKB.out 2).trans rfl, (blk_cell BKA.out 0).trans rfl, (blk_cell BKA.out 1).trans rfl, (blk_cell BKA.out 2).trans rfl, (blk_cell BKA.out 3).trans rfl, (blk_cell BKA.out 4).trans rfl, (blk_cell BKA.out 5).trans rfl, (blk_cell BKA.out 6).trans rfl, ((HB.out.cell (World.block_lt_of_cell? w _ hwD_0)).trans hwD_0), ((HB.out.cell (World.block_lt_of_cell? w _ hwD_1)).trans hwD_1), ((HB.out.cell (World.block_lt_of_cell? w _ hwD_2)).trans hwD_2)⟩ (fun hHeld => ?_)
              clear hK K
              refine norm_ (a' := ?_) ?_ ?_
              rotate_left
              ·show Act.put _ (some 30) _ = _
               simp only [Act.put, List.setIfInBounds_toArray, List.set_cons_zero, List.set_cons_succ, i64_w, i32_w]
               rfl
              iterate 7 (refine pu 13 (v := ?_) (a' := ?_) rfl rfl (any_of HT_.out (by kernel_rfl)) (fun _ _ _ h => h) (Or.inl ⟨by rfl, ?_⟩) ?_ ?_; rotate_left; (·intro w'; go_simp; with_reducible rfl); rotate_left; (·simp only [Act.put, List.setIfInBounds_toArray, List.set_cons_zero, List.set_cons_succ, i64_w, i32_w, Nat.reduceAdd]; rfl); conv => arg 8; arg 2; simp only [Nat.reduceAdd])
              refine pure_ (i := 26) (N := some 39) (v := ?_) (a' := ?_) #[true, true, true, true, true, true, true, true, true, true, true, true, true, true, true, true, true, true, true, true, true, true, true, true, true, false, true, false, false, false, false, false, false, false, false] rfl rfl (any_of HT_.out (by kernel_rfl)) (fun _ _ _ h => h) (Or.inl ⟨by rfl, ?_⟩) ?_ ?_
              rotate_left
              ·intro w'
               go_simp
               with_reducible rfl
              rotate_left
              ·simp only [Act.put, List.setIfInBounds_toArray, List.set_cons_zero, List.set_cons_succ, i64_w, i32_w]
               rfl
              refine pure_ (i := 27) (N := some 40) (v := ?_) (a' := ?_) #[true, true, true, true, true, true, true, true, true, true, true, true, true, true, true, true, true, true, true, true, true, true, true, true, true, false, true, true, false, false, false, false, false, false, false] rfl rfl (any_of HT_.out (by kernel_rfl)) (fun _ _ _ h => h) (Or.inl ⟨by rfl, ?_⟩) ?_ ?_
              rotate_left
              ·intro w'
               go_simp
               with_reducible rfl
              rotate_left
              ·simp only [Act.put, List.setIfInBounds_toArray, List.set_cons_zero, List.set_cons_succ, i64_w, i32_w]
               rfl
              refine take_ (i := 25) (N := some 38) (v := ?_) (a' := ?_) (upT 35 28) rfl rfl (take_ofW HT_.out HW_.out (by kernel_rfl)) (fun _ _ _ h => h) (Or.inl ⟨by rfl, ?_⟩) hHeld ?_ ?_
              rotate_left
              ·rintro w' ⟨s0, s1, s2, s3, s4, s5, s6, s7, s8, s9, s10, s11, s12⟩
               go_simp
               with_reducible rfl
              rotate_left
              ·simp only [Act.put, List.setIfInBounds_toArray, List.set_cons_zero, List.set_cons_succ, i64_w, i32_w]
               rfl
              refine pu 13 (v := ?_) (a' := ?_) rfl rfl (any_of HT_.out (by kernel_rfl)) (fun _ _ _ h => h) (Or.inl ⟨by rfl, ?_⟩) ?_ ?_; rotate_left; (·intro w'; go_simp; with_reducible rfl); rotate_left; (·simp only [Act.put, List.setIfInBounds_toArray, List.set_cons_zero, List.set_cons_succ, i64_w, i32_w, Nat.reduceAdd]; rfl); conv => arg 8; arg 2; simp only [Nat.reduceAdd]
              refine take_ (i := 29) (N := some 42) (v := ?_) (a' := ?_) (upT 35 30) rfl rfl (take_ofW HT_.out HW_.out (by kernel_rfl)) (fun _ _ _ h => h) (Or.inl ⟨by rfl, ?_⟩) hHeld ?_ ?_
              rotate_left
              ·rintro w' ⟨s0, s1, s2, s3, s4, s5, s6, s7, s8, s9, s10, s11, s12⟩
               go_simp
               with_reducible rfl
              rotate_left
              ·simp only [Act.put, List.setIfInBounds_toArray, List.set_cons_zero, List.set_cons_succ, i64_w, i32_w]
               rfl
              refine take_ (i := 30) (N := some 43) (v := ?_) (a' := ?_) (upT 35 31) rfl rfl (take_ofW HT_.out HW_.out (by kernel_rfl)) (fun _ _ _ h => h) (Or.inl ⟨by rfl, ?_⟩) hHeld ?_ ?_
              rotate_left
              ·rintro w' ⟨s0, s1, s2, s3, s4, s5, s6, s7, s8, s9, s10, s11, s12⟩
               go_simp
               with_reducible rfl
              rotate_left
              ·simp only [Act.put, List.setIfInBounds_toArray, List.set_cons_zero, List.set_cons_succ, i64_w, i32_w]
               rfl
              refine one_ (i := 31) (N := some 44) (upT 35 32) rfl rfl (one_of HT_.out (by kernel_rfl)) (by decide) (fun K hK => ?_)
              refine goes_ Tryd.func31 (by kernel_rfl) rfl #[.agg #[.string ((rd_T35 l0_6 (ji20)).f0), .string ((rd_T35 l0_6 (ji20)).f1), .int .i64 ((rd_T35 l0_6 (ji20)).f2)], .agg #[.string ((rd_T35 l0_6 x8_1).f0), .string ((rd_T35 l0_6 x8_1).f1), .int .i64 ((rd_T35 l0_6 x8_1).f2)]] (by rfl) rfl rfl (by (try simp only [List.map_toArray, List.map_cons, List.map_nil]); first | done | (simp only [hji20]; rfl) | rfl | (simp only [List.length_drop, List.length_take]; rfl)) ?_
              with_reducible refine (msg_rise.calls k1 ((rd_T35 l0_6 (ji20)).f0) ((rd_T35 l0_6 (ji20)).f1) ((rd_T35 l0_6 (ji20)).f2) ((rd_T35 l0_6 x8_1).f0) ((rd_T35 l0_6 x8_1).f1) ((rd_T35 l0_6 x8_1).f2) false _ A23.out).mono ?_
              rintro e w40 ⟨rfl, hb⟩
              refine ⟨_, rfl, ?_⟩
              have n0_ := Aside0.mk (blk_below (g := gbA) (o := .cells #[.int .i64 a0_0, .int .i64 a0_1, .int .i64 a0_2, .int .i64 a0_3, .int .i64 a0_4, .int .i64 a0_5, .slice (some adC) l0_6.length c0_6] 31 (0, 0)) (by (with_reducible repeat (first | refine blk_drewN ?_ _ | refine blk_drew ?_ | refine blk_alloc ?_ _)); exact BKA.out) hb)
              have n1_ := Aside0.mk (blk_below (g := gbB) (o := .cells #[.string ((rd_T35 l0_6 x8_1).f0), .string ((rd_T35 l0_6 x8_1).f1), .int .i64 ((rd_T35 l0_6 x8_1).f2)] 35 (0, 0)) (by (with_reducible repeat (first | refine blk_drewN ?_ _ | refine blk_drew ?_ | refine blk_alloc ?_ _)); exact BKB.out) hb)
              have n2_ := Aside0.mk (below_step (by repeat (first | (with_reducible first | exact HB.out | apply below_alloc | apply pw_below_drewN | apply below_drew1 | refine below_set ?_ GEA.out | refine below_set ?_ GEB.out) | exact HB.out)) hb)
              clear BKA
              clear BKB
              clear HB
              have BKA := n0_
              have BKB := n1_
              have HB := n2_
              clear n0_ n1_ n2_
              (try clear hb)
              (try clear hb2)
              (try clear hk)
              (try clear hi)
              (try clear hge)
              refine hK.out _ _ ⟨(blk_cell BKB.out 0).trans rfl, (blk_cell BKB.out 1).trans rfl, (blk_cell BKB.out 2).trans rfl, (blk_cell BKA.out 0).trans rfl, (blk_cell BKA.out 1).trans rfl, (blk_cell BKA.out 2).trans rfl, (blk_cell BKA.out 3).trans rfl, (blk_cell BKA.out 4).trans rfl, (blk_cell BKA.out 5).trans rfl, (blk_cell BKA.out 6).trans rfl, ((HB.out.cell (World.block_lt_of_cell? w _ hwD_0)).trans hwD_0), ((HB.out.cell (World.block_lt_of_cell? w _ hwD_1)).trans hwD_1), ((HB.out.cell (World.block_lt_of_cell? w _ hwD_2)).trans hwD_2)⟩ (fun hHeld => ?_)
              clear hK K
              refine norm_ (a' := ?_) ?_ ?_
              rotate_left
              ·show Act.put _ (some 44) _ = _
               simp only [Act.put, List.setIfInBounds_toArray, List.set_cons_zero, List.set_cons_succ, i64_w, i32_w]
               rfl
              iterate 3 (refine pu 13 (v := ?_) (a' := ?_) rfl rfl (any_of HT_.out (by kernel_rfl)) (fun _ _ _ h => h) (Or.inl ⟨by rfl, ?_⟩) ?_ ?_; rotate_left; (·intro w'; go_simp; with_reducible rfl); rotate_left; (·simp only [Act.put, List.setIfInBounds_toArray, List.set_cons_zero, List.set_cons_succ, i64_w, i32_w, Nat.reduceAdd]; rfl); conv => arg 8; arg 2; simp only [Nat.reduceAdd])
              refine done_ (done_of HT_.out (by kernel_rfl)) ?_
              try go_wp2
              go_ret
              exact ⟨by first | rfl | (simp [errW_none, errW_some] <;> rfl) | (simp only [← hji20]; first | rfl | (simp [errW_none, errW_some] <;> rfl)) | (simp [*, errW_none, errW_some] <;> rfl), by repeat (first | (with_reducible first | exact HB.out | apply below_alloc | apply pw_below_drewN | apply below_drew1 | refine below_set ?_ GEA.out | refine below_set ?_ GEB.out) | exact HB.out)⟩
            ·rw [if_neg c22] at H
             exact absurd H (by simp)
           ·rw [if_neg c21] at H
            exact absurd H (by simp)
          ·rw [if_neg c19] at H
           have c19b0 : decide (0 < x8_1) = false := decide_eq_false c19
           clear c19
           have H' := Aside0.mk H
           clear H
           have pC : 0 ≤ (x8_1 : Int) := of_decide_eq_true (by first | (with_reducible assumption) | assumption)
           have qC : x8_1 < (l0_6.length : Int) := of_decide_eq_true (by first | (with_reducible assumption) | assumption)
           obtain ⟨adC, eC, hxC_0, hxC_1, hxC_2⟩ := at_T35 HR0_6.out x8_1 pC qC
           cases eC
           replace hxC_0 := (HB.out.cell (World.block_lt_of_cell? w _ hxC_0)).trans hxC_0
           replace hxC_1 := (HB.out.cell (World.block_lt_of_cell? w _ hxC_1)).trans hxC_1
           replace hxC_2 := (HB.out.cell (World.block_lt_of_cell? w _ hxC_2)).trans hxC_2
           replace pC := eq_true pC
           (try replace pCz := eq_true pCz)
           replace qC := eq_true qC
           (try replace qCz := eq_true qCz)
           try go_wp2_with (first | ((with_reducible refine gate_dst (N := 4) rfl ?_); refine box_event ?hg (N := 4) ?hd (cs := #[.string (⟨#[]⟩ : ByteArray), .string (⟨#[]⟩ : ByteArray), .int .i64 0]) (t := 35) ?hr ?_; (case hd => rfl); (case hg => rfl); (case hr => first | (go_simp; done) | (go_simp; rfl)); intro gbB hg w41 hbox hb; have n0_ := Aside0.mk (blk_below (g := gbA) (o := .cells #[.int .i64 a0_0, .int .i64 a0_1, .int .i64 a0_2, .int .i64 a0_3, .int .i64 a0_4, .int .i64 a0_5, .slice (some adC) l0_6.length c0_6] 31 (0, 0)) (by (with_reducible repeat (first | refine blk_drewN ?_ _ | refine blk_drew ?_ | refine blk_alloc ?_ _)); exact BKA.out) hb); have n1_ := Aside0.mk (below_step (by repeat (first | (with_reducible first | exact HB.out | apply below_alloc | apply pw_below_drewN | apply below_drew1 | refine below_set ?_ GEA.out) | exact HB.out)) hb); have n2_ := Aside0.mk (hbox); have n3_ := Aside0.mk ((by rw [hg]; exact (below_size (by repeat (first | (with_reducible first | exact HB.out | apply below_alloc | apply pw_below_drewN | apply below_drew1 | refine below_set ?_ GEA.out) | exact HB.out))) : w.heap.size ≤ gbB)); have n4_ := Aside0.mk ((by rw [hg]; exact (below_size (by repeat (first | (with_reducible first | exact HB.out | apply below_alloc | apply pw_below_drewN | apply below_drew1 | refine below_set ?_ GEA.out) | exact HB.out))) : w.heap.size ≤ gbB)); have n5_ := Aside0.mk ((by rw [hg]; exact Nat.ne_of_lt (blk_lt (g := gbA) (o := .cells #[.int .i64 a0_0, .int .i64 a0_1, .int .i64 a0_2, .int .i64 a0_3, .int .i64 a0_4, .int .i64 a0_5, .slice (some adC) l0_6.length c0_6] 31 (0, 0)) (by (with_reducible repeat (first | refine blk_drewN ?_ _ | refine blk_drew ?_ | refine blk_alloc ?_ _)); exact BKA.out)) : gbA ≠ gbB)); have n6_ := Aside0.mk ((by rw [hg]; exact Nat.ne_of_gt (blk_lt (g := gbA) (o := .cells #[.int .i64 a0_0, .int .i64 a0_1, .int .i64 a0_2, .int .i64 a0_3, .int .i64 a0_4, .int .i64 a0_5, .slice (some adC) l0_6.length c0_6] 31 (0, 0)) (by (with_reducible repeat (first | refine blk_drewN ?_ _ | refine blk_drew ?_ | refine blk_alloc ?_ _)); exact BKA.out)) : gbB ≠ gbA)); clear BKA; clear HB; have BKA := n0_; have HB := n1_; have BKB := n2_; have GWB := n3_; have GEB := n4_; have NBA_B := n5_; have NBB_A := n6_; clear n0_ n1_ n2_ n3_ n4_ n5_ n6_; clear hb hbox hg; have hnb42 := NBB_A.out; have hnc42 := NBA_B.out; have hcz43_0 : w41.cell? ⟨gbB, 0, none⟩ = some (.string (⟨#[]⟩ : ByteArray)) := (blk_cell BKB.out 0).trans rfl; have hcz43_1 : w41.cell? ⟨gbB, 1, none⟩ = some (.string (⟨#[]⟩ : ByteArray)) := (blk_cell BKB.out 1).trans rfl; have hcz43_2 : w41.cell? ⟨gbB, 2, none⟩ = some (.int .i64 0) := (blk_cell BKB.out 2).trans rfl; have hfz43_0 := blk_frozen BKB.out 0; have hfz43_1 := blk_frozen BKB.out 1; have hfz43_2 := blk_frozen BKB.out 2))
           have n0_ : Aside0 ((((w41.setCell ⟨gbB, 0, none⟩ (.string ((rd_T35 l0_6 x8_1).f0))).setCell ⟨gbB, 1, none⟩ (.string ((rd_T35 l0_6 x8_1).f1))).setCell ⟨gbB, 2, none⟩ (.int .i64 ((rd_T35 l0_6 x8_1).f2))).heap[gbA]? = some (.cells #[.int .i64 a0_0, .int .i64 a0_1, .int .i64 a0_2, .int .i64 a0_3, .int .i64 a0_4, .int .i64 a0_5, .slice (some adC) l0_6.length c0_6] 31 (0, 0))) := ⟨by (with_reducible repeat (first | refine blk_drewN ?_ _ | refine blk_drew ?_ | refine blk_alloc ?_ _)); refine blk_far ?_ NBA_B.out _; (with_reducible repeat (first | refine blk_drewN ?_ _ | refine blk_drew ?_ | refine blk_alloc ?_ _)); refine blk_far ?_ NBA_B.out _; (with_reducible repeat (first | refine blk_drewN ?_ _ | refine blk_drew ?_ | refine blk_alloc ?_ _)); refine blk_far ?_ NBA_B.out _; (with_reducible repeat (first | refine blk_drewN ?_ _ | refine blk_drew ?_ | refine blk_alloc ?_ _)); exact BKA.out⟩
           have n1_ : Aside0 ((((w41.setCell ⟨gbB, 0, none⟩ (.string ((rd_T35 l0_6 x8_1).f0))).setCell ⟨gbB, 1, none⟩ (.string ((rd_T35 l0_6 x8_1).f1))).setCell ⟨gbB, 2, none⟩ (.int .i64 ((rd_T35 l0_6 x8_1).f2))).heap[gbB]? = some (.cells #[.string ((rd_T35 l0_6 x8_1).f0), .string ((rd_T35 l0_6 x8_1).f1), .int .i64 ((rd_T35 l0_6 x8_1).f2)] 35 (0, 0))) := ⟨by (with_reducible repeat (first | refine blk_drewN ?_ _ | refine blk_drew ?_ | refine blk_alloc ?_ _)); refine blk_put (cs := #[.string ((rd_T35 l0_6 x8_1).f0), .string ((rd_T35 l0_6 x8_1).f1), .int .i64 0]) ?_ 2 _ rfl; (with_reducible repeat (first | refine blk_drewN ?_ _ | refine blk_drew ?_ | refine blk_alloc ?_ _)); refine blk_put (cs := #[.string ((rd_T35 l0_6 x8_1).f0), .string (⟨#[]⟩ : ByteArray), .int .i64 0]) ?_ 1 _ rfl; (with_reducible repeat (first | refine blk_drewN ?_ _ | refine blk_drew ?_ | refine blk_alloc ?_ _)); refine blk_put (cs := #[.string (⟨#[]⟩ : ByteArray), .string (⟨#[]⟩ : ByteArray), .int .i64 0]) ?_ 0 _ rfl; (with_reducible repeat (first | refine blk_drewN ?_ _ | refine blk_drew ?_ | refine blk_alloc ?_ _)); exact BKB.out⟩
           have n2_ : Aside0 (Below w.heap.size w (((w41.setCell ⟨gbB, 0, none⟩ (.string ((rd_T35 l0_6 x8_1).f0))).setCell ⟨gbB, 1, none⟩ (.string ((rd_T35 l0_6 x8_1).f1))).setCell ⟨gbB, 2, none⟩ (.int .i64 ((rd_T35 l0_6 x8_1).f2)))) := ⟨by repeat (first | (with_reducible first | exact HB.out | apply below_alloc | apply pw_below_drewN | apply below_drew1 | refine below_set ?_ GEA.out | refine below_set ?_ GEB.out) | exact HB.out)⟩
           (try clear BKA)
           (try clear BKB)
           (try clear HB)
           generalize (((w41.setCell ⟨gbB, 0, none⟩ (.string ((rd_T35 l0_6 x8_1).f0))).setCell ⟨gbB, 1, none⟩ (.string ((rd_T35 l0_6 x8_1).f1))).setCell ⟨gbB, 2, none⟩ (.int .i64 ((rd_T35 l0_6 x8_1).f2))) = w44 at n0_ n1_ n2_ ⊢
           have BKA := n0_
           have BKB := n1_
           have HB := n2_
           clear n0_ n1_ n2_
           have n0_ := Aside0.mk (blk_drew BKA.out)
           have n1_ := Aside0.mk (blk_drew BKB.out)
           have n2_ := Aside0.mk (below_drew1 HB.out)
           clear BKA
           clear BKB
           clear HB
           have BKA := n0_
           have BKB := n1_
           have HB := n2_
           clear n0_ n1_ n2_
           refine start_ (n := 35) (S := fun w' => w'.cell? ⟨gbB, 0, none⟩ = some (.string ((rd_T35 l0_6 x8_1).f0)) ∧ w'.cell? ⟨gbB, 1, none⟩ = some (.string ((rd_T35 l0_6 x8_1).f1)) ∧ w'.cell? ⟨gbB, 2, none⟩ = some (.int .i64 ((rd_T35 l0_6 x8_1).f2))) (ds := []) (upT 35 0) (by kernel_rfl) rfl rfl ⟨(blk_cell BKB.out 0).trans rfl, (blk_cell BKB.out 1).trans rfl, (blk_cell BKB.out 2).trans rfl⟩ (fun hHeld => ?_); refine with_tabW msg_Right.tab4 msg_Right.bits4 (fun HT_ HW_ => ?_)
           generalize w44.drew = w45 at BKA BKB HB hHeld ⊢
           iterate 4 (refine pu 13 (v := ?_) (a' := ?_) rfl rfl (any_of HT_.out (by kernel_rfl)) (fun _ _ _ h => h) (Or.inl ⟨by rfl, ?_⟩) ?_ ?_; rotate_left; (·intro w'; go_simp; with_reducible rfl); rotate_left; (·simp only [Act.put, List.setIfInBounds_toArray, List.set_cons_zero, List.set_cons_succ, i64_w, i32_w, Nat.reduceAdd]; rfl); conv => arg 8; arg 2; simp only [Nat.reduceAdd])
           refine take_ (i := 4) (N := some 17) (v := ?_) (a' := ?_) (upT 35 5) rfl rfl (take_ofW HT_.out HW_.out (by kernel_rfl)) (fun _ _ _ h => h) (Or.inl ⟨by rfl, ?_⟩) hHeld ?_ ?_
           rotate_left
           ·rintro w' ⟨s0, s1, s2⟩
            go_simp
            with_reducible rfl
           rotate_left
           ·simp only [Act.put, List.setIfInBounds_toArray, List.set_cons_zero, List.set_cons_succ, i64_w, i32_w]
            rfl
           refine one_ (i := 5) (N := some 18) (upT 35 6) rfl rfl (one_of HT_.out (by kernel_rfl)) (by decide) (fun K hK => ?_)
           refine goes_ Tryd.func29 (by kernel_rfl) rfl #[.string ((rd_T35 l0_6 x8_1).f0)] (by rfl) rfl rfl (by (try simp only [List.map_toArray, List.map_cons, List.map_nil]); first | done | rfl | (simp only [List.length_drop, List.length_take]; rfl)) ?_
           with_reducible refine (label_IsName.calls ((rd_T35 l0_6 x8_1).f0) true _ A13.out).mono ?_
           rintro e w46 ⟨rfl, hb⟩
           refine ⟨_, rfl, ?_⟩
           have n0_ := Aside0.mk (blk_below (g := gbA) (o := .cells #[.int .i64 a0_0, .int .i64 a0_1, .int .i64 a0_2, .int .i64 a0_3, .int .i64 a0_4, .int .i64 a0_5, .slice (some adC) l0_6.length c0_6] 31 (0, 0)) (by (with_reducible repeat (first | refine blk_drewN ?_ _ | refine blk_drew ?_ | refine blk_alloc ?_ _)); exact BKA.out) hb)
           have n1_ := Aside0.mk (blk_below (g := gbB) (o := .cells #[.string ((rd_T35 l0_6 x8_1).f0), .string ((rd_T35 l0_6 x8_1).f1), .int .i64 ((rd_T35 l0_6 x8_1).f2)] 35 (0, 0)) (by (with_reducible repeat (first | refine blk_drewN ?_ _ | refine blk_drew ?_ | refine blk_alloc ?_ _)); exact BKB.out) hb)
           have n2_ := Aside0.mk (below_step (by repeat (first | (with_reducible first | exact HB.out | apply below_alloc | apply pw_below_drewN | apply below_drew1 | refine below_set ?_ GEA.out | refine below_set ?_ GEB.out) | exact HB.out)) hb)
           clear BKA
           clear BKB
           clear HB
           have BKA := n0_
           have BKB := n1_
           have HB := n2_
           clear n0_ n1_ n2_
           (try clear hb)
           (try clear hb2)
           (try clear hk)
           (try clear hi)
           (try clear hge)
           refine hK.out _ _ ⟨(blk_cell BKB.out 0).trans rfl, (blk_cell BKB.out 1).trans rfl, (blk_cell BKB.out 2).trans rfl⟩ (fun hHeld => ?_)
           clear hK K
           refine norm_ (a' := ?_) ?_ ?_
           rotate_left
           ·show Act.put _ (some 18) _ = _
            simp only [Act.put, List.setIfInBounds_toArray, List.set_cons_zero, List.set_cons_succ, i64_w, i32_w]
            rfl
           iterate 4 (refine pu 13 (v := ?_) (a' := ?_) rfl rfl (any_of HT_.out (by kernel_rfl)) (fun _ _ _ h => h) (Or.inl ⟨by rfl, ?_⟩) ?_ ?_; rotate_left; (·intro w'; go_simp; with_reducible rfl); rotate_left; (·simp only [Act.put, List.setIfInBounds_toArray, List.set_cons_zero, List.set_cons_succ, i64_w, i32_w, Nat.reduceAdd]; rfl); conv => arg 8; arg 2; simp only [Nat.reduceAdd])
           refine take_ (i := 10) (N := some 23) (v := ?_) (a' := ?_) (upT 35 11) rfl rfl (take_ofW HT_.out HW_.out (by kernel_rfl)) (fun _ _ _ h => h) (Or.inl ⟨by rfl, ?_⟩) hHeld ?_ ?_
           rotate_left
           ·rintro w' ⟨s0, s1, s2⟩
            go_simp
            with_reducible rfl
           rotate_left
           ·simp only [Act.put, List.setIfInBounds_toArray, List.set_cons_zero, List.set_cons_succ, i64_w, i32_w]
            rfl
           refine one_ (i := 11) (N := some 24) (upT 35 12) rfl rfl (one_of HT_.out (by kernel_rfl)) (by decide) (fun K hK => ?_)
           refine goes_ Tryd.func29 (by kernel_rfl) rfl #[.string ((rd_T35 l0_6 x8_1).f1)] (by rfl) rfl rfl (by (try simp only [List.map_toArray, List.map_cons, List.map_nil]); first | done | rfl | (simp only [List.length_drop, List.length_take]; rfl)) ?_
           with_reducible refine (label_IsName.calls ((rd_T35 l0_6 x8_1).f1) true _ A15.out).mono ?_
           rintro e w47 ⟨rfl, hb⟩
           refine ⟨_, rfl, ?_⟩
           have n0_ := Aside0.mk (blk_below (g := gbA) (o := .cells #[.int .i64 a0_0, .int .i64 a0_1, .int .i64 a0_2, .int .i64 a0_3, .int .i64 a0_4, .int .i64 a0_5, .slice (some adC) l0_6.length c0_6] 31 (0, 0)) (by (with_reducible repeat (first | refine blk_drewN ?_ _ | refine blk_drew ?_ | refine blk_alloc ?_ _)); exact BKA.out) hb)
           have n1_ := Aside0.mk (blk_below (g := gbB) (o := .cells #[.string ((rd_T35 l0_6 x8_1).f0), .string ((rd_T35 l0_6 x8_1).f1), .int .i64 ((rd_T35 l0_6 x8_1).f2)] 35 (0, 0)) (by (with_reducible repeat (first | refine blk_drewN ?_ _ | refine blk_drew ?_ | refine blk_alloc ?_ _)); exact BKB.out) hb)
           have n2_ := Aside0.mk (below_step (by repeat (first | (with_reducible first | exact HB.out | apply below_alloc | apply pw_below_drewN | apply below_drew1 | refine below_set ?_ GEA.out | refine below_set ?_ GEB.out) | exact HB.out)) hb)
           clear BKA
           clear BKB
           clear HB
           have BKA := n0_
           have BKB := n1_
           have HB := n2_
           clear n0_ n1_ n2_
           (try clear hb)
           (try clear hb2)
           (try clear hk)
           (try clear hi)
           (try clear hge)
           refine hK.out _ _ ⟨(blk_cell BKB.out 0).trans rfl, (blk_cell BKB.out 1).trans rfl, (blk_cell BKB.out 2).trans rfl⟩ (fun hHeld => ?_)
           clear hK K
           refine norm_ (a' := ?_) ?_ ?_
           rotate_left
           ·show Act.put _ (some 24) _ = _
            simp only [Act.put, List.setIfInBounds_toArray, List.set_cons_zero, List.set_cons_succ, i64_w, i32_w]
            rfl
           iterate 4 (refine pu 13 (v := ?_) (a' := ?_) rfl rfl (any_of HT_.out (by kernel_rfl)) (fun _ _ _ h => h) (Or.inl ⟨by rfl, ?_⟩) ?_ ?_; rotate_left; (·intro w'; go_simp; with_reducible rfl); rotate_left; (·simp only [Act.put, List.setIfInBounds_toArray, List.set_cons_zero, List.set_cons_succ, i64_w, i32_w, Nat.reduceAdd]; rfl); conv => arg 8; arg 2; simp only [Nat.reduceAdd])
           refine take_ (i := 16) (N := some 29) (v := ?_) (a' := ?_) (upT 35 17) rfl rfl (take_ofW HT_.out HW_.out (by kernel_rfl)) (fun _ _ _ h => h) (Or.inl ⟨by rfl, ?_⟩) hHeld ?_ ?_
           rotate_left
           ·rintro w' ⟨s0, s1, s2⟩
            go_simp
            with_reducible rfl
           rotate_left
           ·simp only [Act.put, List.setIfInBounds_toArray, List.set_cons_zero, List.set_cons_succ, i64_w, i32_w]
            rfl
           refine one_ (i := 17) (N := some 30) (upT 35 18) rfl rfl (one_of HT_.out (by kernel_rfl)) (by decide) (fun K hK => ?_)
           refine goes_ Tryd.func30 (by kernel_rfl) rfl #[.int .i64 ((rd_T35 l0_6 x8_1).f2), .int .i64 1, .int .i64 1000] (by rfl) rfl rfl (by (try simp only [List.map_toArray, List.map_cons, List.map_nil]); first | done | rfl | (simp only [List.length_drop, List.length_take]; rfl)) ?_
           with_reducible refine (msg_within.calls ((rd_T35 l0_6 x8_1).f2) 1 1000 true _ A17.out).mono ?_
           rintro e w' ⟨rfl, ⟨nd, rfl⟩⟩
           refine ⟨_, rfl, ?_⟩
           refine hK.out _ _ ⟨(blk_cell BKB.out 0).trans rfl, (blk_cell BKB.out 1).trans rfl, (blk_cell BKB.out 2).trans rfl⟩ (fun hHeld => ?_)
           clear hK K
           refine norm_ (a' := ?_) ?_ ?_
           rotate_left
           ·show Act.put _ (some 30) _ = _
            simp only [Act.put, List.setIfInBounds_toArray, List.set_cons_zero, List.set_cons_succ, i64_w, i32_w]
            rfl
           iterate 6 (refine pu 13 (v := ?_) (a' := ?_) rfl rfl (any_of HT_.out (by kernel_rfl)) (fun _ _ _ h => h) (Or.inl ⟨by rfl, ?_⟩) ?_ ?_; rotate_left; (·intro w'; go_simp; with_reducible rfl); rotate_left; (·simp only [Act.put, List.setIfInBounds_toArray, List.set_cons_zero, List.set_cons_succ, i64_w, i32_w, Nat.reduceAdd]; rfl); conv => arg 8; arg 2; simp only [Nat.reduceAdd])
           iterate 9 (refine pu 13 (v := undef) (a' := ?_) rfl rfl (any_of HT_.out (by kernel_rfl)) (fun _ _ _ h => h) (Or.inr ⟨by rfl, rfl⟩) ?_ ?_; rotate_left; (·simp only [Act.put, List.setIfInBounds_toArray, List.set_cons_zero, List.set_cons_succ, i64_w, i32_w, Nat.reduceAdd]; rfl); conv => arg 8; arg 2; simp only [Nat.reduceAdd])
           iterate 2 (refine pu 13 (v := ?_) (a' := ?_) rfl rfl (any_of HT_.out (by kernel_rfl)) (fun _ _ _ h => h) (Or.inl ⟨by rfl, ?_⟩) ?_ ?_; rotate_left; (·intro w'; go_simp; with_reducible rfl); rotate_left; (·simp only [Act.put, List.setIfInBounds_toArray, List.set_cons_zero, List.set_cons_succ, i64_w, i32_w, Nat.reduceAdd]; rfl); conv => arg 8; arg 2; simp only [Nat.reduceAdd])
           refine done_ (done_of HT_.out (by kernel_rfl)) ?_
           try go_wp2
           go_roundg k1
           case measure => have := HK1.out; omega
           case rel => exact ⟨(wrap64 (x8_1 + 1)), (by first | rfl | (simp; done) | (simp [*]; done)), H', ⟨by have := HK1.out; omega⟩, ⟨by (with_reducible repeat (first | refine blk_drewN ?_ _ | refine blk_drew ?_ | refine blk_alloc ?_ _)); exact BKA.out⟩, ⟨by repeat (first | (with_reducible first | exact HB.out | apply below_alloc | apply pw_below_drewN | apply below_drew1 | refine below_set ?_ GEA.out | refine below_set ?_ GEB.out) | exact HB.out)⟩⟩
         ·replace c18 := Bool.eq_false_iff.mpr c18
          subst c18
          have H1 : (some false) = some r := by rw [if_neg (show ¬ (false = true) by decide)] at H; exact H
          clear H
          have H := H1
          clear H1
          obtain rfl := Option.some.inj H
          have pC : 0 ≤ (x8_1 : Int) := of_decide_eq_true (by first | (with_reducible assumption) | assumption)
          have qC : x8_1 < (l0_6.length : Int) := of_decide_eq_true (by first | (with_reducible assumption) | assumption)
          obtain ⟨adC, eC, hxC_0, hxC_1, hxC_2⟩ := at_T35 HR0_6.out x8_1 pC qC
          cases eC
          replace hxC_0 := (HB.out.cell (World.block_lt_of_cell? w _ hxC_0)).trans hxC_0
          replace hxC_1 := (HB.out.cell (World.block_lt_of_cell? w _ hxC_1)).trans hxC_1
          replace hxC_2 := (HB.out.cell (World.block_lt_of_cell? w _ hxC_2)).trans hxC_2
          replace pC := eq_true pC
          (try replace pCz := eq_true pCz)
          replace qC := eq_true qC
          (try replace qCz := eq_true qCz)
          try go_wp2_with (first | ((with_reducible refine gate_dst (N := 4) rfl ?_); refine box_event ?hg (N := 4) ?hd (cs := #[.string (⟨#[]⟩ : ByteArray), .string (⟨#[]⟩ : ByteArray), .int .i64 0]) (t := 35) ?hr ?_; (case hd => rfl); (case hg => rfl); (case hr => first | (go_simp; done) | (go_simp; rfl)); intro gbB hg w48 hbox hb; have n0_ := Aside0.mk (blk_below (g := gbA) (o := .cells #[.int .i64 a0_0, .int .i64 a0_1, .int .i64 a0_2, .int .i64 a0_3, .int .i64 a0_4, .int .i64 a0_5, .slice (some adC) l0_6.length c0_6] 31 (0, 0)) (by (with_reducible repeat (first | refine blk_drewN ?_ _ | refine blk_drew ?_ | refine blk_alloc ?_ _)); exact BKA.out) hb); have n1_ := Aside0.mk (below_step (by repeat (first | (with_reducible first | exact HB.out | apply below_alloc | apply pw_below_drewN | apply below_drew1 | refine below_set ?_ GEA.out) | exact HB.out)) hb); have n2_ := Aside0.mk (hbox); have n3_ := Aside0.mk ((by rw [hg]; exact (below_size (by repeat (first | (with_reducible first | exact HB.out | apply below_alloc | apply pw_below_drewN | apply below_drew1 | refine below_set ?_ GEA.out) | exact HB.out))) : w.heap.size ≤ gbB)); have n4_ := Aside0.mk ((by rw [hg]; exact (below_size (by repeat (first | (with_reducible first | exact HB.out | apply below_alloc | apply pw_below_drewN | apply below_drew1 | refine below_set ?_ GEA.out) | exact HB.out))) : w.heap.size ≤ gbB)); have n5_ := Aside0.mk ((by rw [hg]; exact Nat.ne_of_lt (blk_lt (g := gbA) (o := .cells #[.int .i64 a0_0, .int .i64 a0_1, .int .i64 a0_2, .int .i64 a0_3, .int .i64 a0_4, .int .i64 a0_5, .slice (some adC) l0_6.length c0_6] 31 (0, 0)) (by (with_reducible repeat (first | refine blk_drewN ?_ _ | refine blk_drew ?_ | refine blk_alloc ?_ _)); exact BKA.out)) : gbA ≠ gbB)); have n6_ := Aside0.mk ((by rw [hg]; exact Nat.ne_of_gt (blk_lt (g := gbA) (o := .cells #[.int .i64 a0_0, .int .i64 a0_1, .int .i64 a0_2, .int .i64 a0_3, .int .i64 a0_4, .int .i64 a0_5, .slice (some adC) l0_6.length c0_6] 31 (0, 0)) (by (with_reducible repeat (first | refine blk_drewN ?_ _ | refine blk_drew ?_ | refine blk_alloc ?_ _)); exact BKA.out)) : gbB ≠ gbA)); clear BKA; clear HB; have BKA := n0_; have HB := n1_; have BKB := n2_; have GWB := n3_; have GEB := n4_; have NBA_B := n5_; have NBB_A := n6_; clear n0_ n1_ n2_ n3_ n4_ n5_ n6_; clear hb hbox hg; have hnb49 := NBB_A.out; have hnc49 := NBA_B.out; have hcz50_0 : w48.cell? ⟨gbB, 0, none⟩ = some (.string (⟨#[]⟩ : ByteArray)) := (blk_cell BKB.out 0).trans rfl; have hcz50_1 : w48.cell? ⟨gbB, 1, none⟩ = some (.string (⟨#[]⟩ : ByteArray)) := (blk_cell BKB.out 1).trans rfl; have hcz50_2 : w48.cell? ⟨gbB, 2, none⟩ = some (.int .i64 0) := (blk_cell BKB.out 2).trans rfl; have hfz50_0 := blk_frozen BKB.out 0; have hfz50_1 := blk_frozen BKB.out 1; have hfz50_2 := blk_frozen BKB.out 2))
          have n0_ : Aside0 ((((w48.setCell ⟨gbB, 0, none⟩ (.string ((rd_T35 l0_6 x8_1).f0))).setCell ⟨gbB, 1, none⟩ (.string ((rd_T35 l0_6 x8_1).f1))).setCell ⟨gbB, 2, none⟩ (.int .i64 ((rd_T35 l0_6 x8_1).f2))).heap[gbA]? = some (.cells #[.int .i64 a0_0, .int .i64 a0_1, .int .i64 a0_2, .int .i64 a0_3, .int .i64 a0_4, .int .i64 a0_5, .slice (some adC) l0_6.length c0_6] 31 (0, 0))) := ⟨by (with_reducible repeat (first | refine blk_drewN ?_ _ | refine blk_drew ?_ | refine blk_alloc ?_ _)); refine blk_far ?_ NBA_B.out _; (with_reducible repeat (first | refine blk_drewN ?_ _ | refine blk_drew ?_ | refine blk_alloc ?_ _)); refine blk_far ?_ NBA_B.out _; (with_reducible repeat (first | refine blk_drewN ?_ _ | refine blk_drew ?_ | refine blk_alloc ?_ _)); refine blk_far ?_ NBA_B.out _; (with_reducible repeat (first | refine blk_drewN ?_ _ | refine blk_drew ?_ | refine blk_alloc ?_ _)); exact BKA.out⟩
          have n1_ : Aside0 ((((w48.setCell ⟨gbB, 0, none⟩ (.string ((rd_T35 l0_6 x8_1).f0))).setCell ⟨gbB, 1, none⟩ (.string ((rd_T35 l0_6 x8_1).f1))).setCell ⟨gbB, 2, none⟩ (.int .i64 ((rd_T35 l0_6 x8_1).f2))).heap[gbB]? = some (.cells #[.string ((rd_T35 l0_6 x8_1).f0), .string ((rd_T35 l0_6 x8_1).f1), .int .i64 ((rd_T35 l0_6 x8_1).f2)] 35 (0, 0))) := ⟨by (with_reducible repeat (first | refine blk_drewN ?_ _ | refine blk_drew ?_ | refine blk_alloc ?_ _)); refine blk_put (cs := #[.string ((rd_T35 l0_6 x8_1).f0), .string ((rd_T35 l0_6 x8_1).f1), .int .i64 0]) ?_ 2 _ rfl; (with_reducible repeat (first | refine blk_drewN ?_ _ | refine blk_drew ?_ | refine blk_alloc ?_ _)); refine blk_put (cs := #[.string ((rd_T35 l0_6 x8_1).f0), .string (⟨#[]⟩ : ByteArray), .int .i64 0]) ?_ 1 _ rfl; (with_reducible repeat (first | refine blk_drewN ?_ _ | refine blk_drew ?_ | refine blk_alloc ?_ _)); refine blk_put (cs := #[.string (⟨#[]⟩ : ByteArray), .string (⟨#[]⟩ : ByteArray), .int .i64 0]) ?_ 0 _ rfl; (with_reducible repeat (first | refine blk_drewN ?_ _ | refine blk_drew ?_ | refine blk_alloc ?_ _)); exact BKB.out⟩
          have n2_ : Aside0 (Below w.heap.size w (((w48.setCell ⟨gbB, 0, none⟩ (.string ((rd_T35 l0_6 x8_1).f0))).setCell ⟨gbB, 1, none⟩ (.string ((rd_T35 l0_6 x8_1).f1))).setCell ⟨gbB, 2, none⟩ (.int .i64 ((rd_T35 l0_6 x8_1).f2)))) := ⟨by repeat (first | (with_reducible first | exact HB.out | apply below_alloc | apply pw_below_drewN | apply below_drew1 | refine below_set ?_ GEA.out | refine below_set ?_ GEB.out) | exact HB.out)⟩
          (try clear BKA)
          (try clear BKB)
          (try clear HB)
          generalize (((w48.setCell ⟨gbB, 0, none⟩ (.string ((rd_T35 l0_6 x8_1).f0))).setCell ⟨gbB, 1, none⟩ (.string ((rd_T35 l0_6 x8_1).f1))).setCell ⟨gbB, 2, none⟩ (.int .i64 ((rd_T35 l0_6 x8_1).f2))) = w51 at n0_ n1_ n2_ ⊢
          have BKA := n0_
          have BKB := n1_
          have HB := n2_
          clear n0_ n1_ n2_
          have n0_ := Aside0.mk (blk_drew BKA.out)
          have n1_ := Aside0.mk (blk_drew BKB.out)
          have n2_ := Aside0.mk (below_drew1 HB.out)
          clear BKA
          clear BKB
          clear HB
          have BKA := n0_
          have BKB := n1_
          have HB := n2_
          clear n0_ n1_ n2_
          refine start_ (n := 35) (S := fun w' => w'.cell? ⟨gbB, 0, none⟩ = some (.string ((rd_T35 l0_6 x8_1).f0)) ∧ w'.cell? ⟨gbB, 1, none⟩ = some (.string ((rd_T35 l0_6 x8_1).f1)) ∧ w'.cell? ⟨gbB, 2, none⟩ = some (.int .i64 ((rd_T35 l0_6 x8_1).f2))) (ds := []) (upT 35 0) (by kernel_rfl) rfl rfl ⟨(blk_cell BKB.out 0).trans rfl, (blk_cell BKB.out 1).trans rfl, (blk_cell BKB.out 2).trans rfl⟩ (fun hHeld => ?_); refine with_tabW msg_Right.tab4 msg_Right.bits4 (fun HT_ HW_ => ?_)
          generalize w51.drew = w52 at BKA BKB HB hHeld ⊢
          iterate 4 (refine pu 13 (v := ?_) (a' := ?_) rfl rfl (any_of HT_.out (by kernel_rfl)) (fun _ _ _ h => h) (Or.inl ⟨by rfl, ?_⟩) ?_ ?_; rotate_left; (·intro w'; go_simp; with_reducible rfl); rotate_left; (·simp only [Act.put, List.setIfInBounds_toArray, List.set_cons_zero, List.set_cons_succ, i64_w, i32_w, Nat.reduceAdd]; rfl); conv => arg 8; arg 2; simp only [Nat.reduceAdd])
          refine take_ (i := 4) (N := some 17) (v := ?_) (a' := ?_) (upT 35 5) rfl rfl (take_ofW HT_.out HW_.out (by kernel_rfl)) (fun _ _ _ h => h) (Or.inl ⟨by rfl, ?_⟩) hHeld ?_ ?_
          rotate_left
          ·rintro w' ⟨s0, s1, s2⟩
           go_simp
           with_reducible rfl
          rotate_left
          ·simp only [Act.put, List.setIfInBounds_toArray, List.set_cons_zero, List.set_cons_succ, i64_w, i32_w]
           rfl
          refine one_ (i := 5) (N := some 18) (upT 35 6) rfl rfl (one_of HT_.out (by kernel_rfl)) (by decide) (fun K hK => ?_)
          refine goes_ Tryd.func29 (by kernel_rfl) rfl #[.string ((rd_T35 l0_6 x8_1).f0)] (by rfl) rfl rfl (by (try simp only [List.map_toArray, List.map_cons, List.map_nil]); first | done | rfl | (simp only [List.length_drop, List.length_take]; rfl)) ?_
          with_reducible refine (label_IsName.calls ((rd_T35 l0_6 x8_1).f0) true _ A13.out).mono ?_
          rintro e w53 ⟨rfl, hb⟩
          refine ⟨_, rfl, ?_⟩
          have n0_ := Aside0.mk (blk_below (g := gbA) (o := .cells #[.int .i64 a0_0, .int .i64 a0_1, .int .i64 a0_2, .int .i64 a0_3, .int .i64 a0_4, .int .i64 a0_5, .slice (some adC) l0_6.length c0_6] 31 (0, 0)) (by (with_reducible repeat (first | refine blk_drewN ?_ _ | refine blk_drew ?_ | refine blk_alloc ?_ _)); exact BKA.out) hb)
          have n1_ := Aside0.mk (blk_below (g := gbB) (o := .cells #[.string ((rd_T35 l0_6 x8_1).f0), .string ((rd_T35 l0_6 x8_1).f1), .int .i64 ((rd_T35 l0_6 x8_1).f2)] 35 (0, 0)) (by (with_reducible repeat (first | refine blk_drewN ?_ _ | refine blk_drew ?_ | refine blk_alloc ?_ _)); exact BKB.out) hb)
          have n2_ := Aside0.mk (below_step (by repeat (first | (with_reducible first | exact HB.out | apply below_alloc | apply pw_below_drewN | apply below_drew1 | refine below_set ?_ GEA.out | refine below_set ?_ GEB.out) | exact HB.out)) hb)
          clear BKA
          clear BKB
          clear HB
          have BKA := n0_
          have BKB := n1_
          have HB := n2_
          clear n0_ n1_ n2_
          (try clear hb)
          (try clear hb2)
          (try clear hk)
          (try clear hi)
          (try clear hge)
          refine hK.out _ _ ⟨(blk_cell BKB.out 0).trans rfl, (blk_cell BKB.out 1).trans rfl, (blk_cell BKB.out 2).trans rfl⟩ (fun hHeld => ?_)
          clear hK K
          refine norm_ (a' := ?_) ?_ ?_
          rotate_left
          ·show Act.put _ (some 18) _ = _
           simp only [Act.put, List.setIfInBounds_toArray, List.set_cons_zero, List.set_cons_succ, i64_w, i32_w]
           rfl
          iterate 4 (refine pu 13 (v := ?_) (a' := ?_) rfl rfl (any_of HT_.out (by kernel_rfl)) (fun _ _ _ h => h) (Or.inl ⟨by rfl, ?_⟩) ?_ ?_; rotate_left; (·intro w'; go_simp; with_reducible rfl); rotate_left; (·simp only [Act.put, List.setIfInBounds_toArray, List.set_cons_zero, List.set_cons_succ, i64_w, i32_w, Nat.reduceAdd]; rfl); conv => arg 8; arg 2; simp only [Nat.reduceAdd])
          refine take_ (i := 10) (N := some 23) (v := ?_) (a' := ?_) (upT 35 11) rfl rfl (take_ofW HT_.out HW_.out (by kernel_rfl)) (fun _ _ _ h => h) (Or.inl ⟨by rfl, ?_⟩) hHeld ?_ ?_
          rotate_left
          ·rintro w' ⟨s0, s1, s2⟩
           go_simp
           with_reducible rfl
          rotate_left
          ·simp only [Act.put, List.setIfInBounds_toArray, List.set_cons_zero, List.set_cons_succ, i64_w, i32_w]
           rfl
          refine one_ (i := 11) (N := some 24) (upT 35 12) rfl rfl (one_of HT_.out (by kernel_rfl)) (by decide) (fun K hK => ?_)
          refine goes_ Tryd.func29 (by kernel_rfl) rfl #[.string ((rd_T35 l0_6 x8_1).f1)] (by rfl) rfl rfl (by (try simp only [List.map_toArray, List.map_cons, List.map_nil]); first | done | rfl | (simp only [List.length_drop, List.length_take]; rfl)) ?_
          with_reducible refine (label_IsName.calls ((rd_T35 l0_6 x8_1).f1) true _ A15.out).mono ?_
          rintro e w54 ⟨rfl, hb⟩
          refine ⟨_, rfl, ?_⟩
          have n0_ := Aside0.mk (blk_below (g := gbA) (o := .cells #[.int .i64 a0_0, .int .i64 a0_1, .int .i64 a0_2, .int .i64 a0_3, .int .i64 a0_4, .int .i64 a0_5, .slice (some adC) l0_6.length c0_6] 31 (0, 0)) (by (with_reducible repeat (first | refine blk_drewN ?_ _ | refine blk_drew ?_ | refine blk_alloc ?_ _)); exact BKA.out) hb)
          have n1_ := Aside0.mk (blk_below (g := gbB) (o := .cells #[.string ((rd_T35 l0_6 x8_1).f0), .string ((rd_T35 l0_6 x8_1).f1), .int .i64 ((rd_T35 l0_6 x8_1).f2)] 35 (0, 0)) (by (with_reducible repeat (first | refine blk_drewN ?_ _ | refine blk_drew ?_ | refine blk_alloc ?_ _)); exact BKB.out) hb)
          have n2_ := Aside0.mk (below_step (by repeat (first | (with_reducible first | exact HB.out | apply below_alloc | apply pw_below_drewN | apply below_drew1 | refine below_set ?_ GEA.out | refine below_set ?_ GEB.out) | exact HB.out)) hb)
          clear BKA
          clear BKB
          clear HB
          have BKA := n0_
          have BKB := n1_
          have HB := n2_
          clear n0_ n1_ n2_
          (try clear hb)
          (try clear hb2)
          (try clear hk)
          (try clear hi)
          (try clear hge)
          refine hK.out _ _ ⟨(blk_cell BKB.out 0).trans rfl, (blk_cell BKB.out 1).trans rfl, (blk_cell BKB.out 2).trans rfl⟩ (fun hHeld => ?_)
          clear hK K
          refine norm_ (a' := ?_) ?_ ?_
          rotate_left
          ·show Act.put _ (some 24) _ = _
           simp only [Act.put, List.setIfInBounds_toArray, List.set_cons_zero, List.set_cons_succ, i64_w, i32_w]
           rfl
          iterate 4 (refine pu 13 (v := ?_) (a' := ?_) rfl rfl (any_of HT_.out (by kernel_rfl)) (fun _ _ _ h => h) (Or.inl ⟨by rfl, ?_⟩) ?_ ?_; rotate_left; (·intro w'; go_simp; with_reducible rfl); rotate_left; (·simp only [Act.put, List.setIfInBounds_toArray, List.set_cons_zero, List.set_cons_succ, i64_w, i32_w, Nat.reduceAdd]; rfl); conv => arg 8; arg 2; simp only [Nat.reduceAdd])
          refine take_ (i := 16) (N := some 29) (v := ?_) (a' := ?_) (upT 35 17) rfl rfl (take_ofW HT_.out HW_.out (by kernel_rfl)) (fun _ _ _ h => h) (Or.inl ⟨by rfl, ?_⟩) hHeld ?_ ?_
          rotate_left
          ·rintro w' ⟨s0, s1, s2⟩
           go_simp
           with_reducible rfl
          rotate_left
          ·simp only [Act.put, List.setIfInBounds_toArray, List.set_cons_zero, List.set_cons_succ, i64_w, i32_w]
           rfl
          refine one_ (i := 17) (N := some 30) (upT 35 18) rfl rfl (one_of HT_.out (by kernel_rfl)) (by decide) (fun K hK => ?_)
          refine goes_ Tryd.func30 (by kernel_rfl) rfl #[.int .i64 ((rd_T35 l0_6 x8_1).f2), .int .i64 1, .int .i64 1000] (by rfl) rfl rfl (by (try simp only [List.map_toArray, List.map_cons, List.map_nil]); first | done | rfl | (simp only [List.length_drop, List.length_take]; rfl)) ?_
          with_reducible refine (msg_within.calls ((rd_T35 l0_6 x8_1).f2) 1 1000 false _ A17.out).mono ?_
          rintro e w' ⟨rfl, ⟨nd, rfl⟩⟩
          refine ⟨_, rfl, ?_⟩
          refine hK.out _ _ ⟨(blk_cell BKB.out 0).trans rfl, (blk_cell BKB.out 1).trans rfl, (blk_cell BKB.out 2).trans rfl⟩ (fun hHeld => ?_)
          clear hK K
          refine norm_ (a' := ?_) ?_ ?_
          rotate_left
          ·show Act.put _ (some 30) _ = _
           simp only [Act.put, List.setIfInBounds_toArray, List.set_cons_zero, List.set_cons_succ, i64_w, i32_w]
           rfl
          iterate 3 (refine pu 13 (v := ?_) (a' := ?_) rfl rfl (any_of HT_.out (by kernel_rfl)) (fun _ _ _ h => h) (Or.inl ⟨by rfl, ?_⟩) ?_ ?_; rotate_left; (·intro w'; go_simp; with_reducible rfl); rotate_left; (·simp only [Act.put, List.setIfInBounds_toArray, List.set_cons_zero, List.set_cons_succ, i64_w, i32_w, Nat.reduceAdd]; rfl); conv => arg 8; arg 2; simp only [Nat.reduceAdd])
          iterate 13 (refine pu 13 (v := undef) (a' := ?_) rfl rfl (any_of HT_.out (by kernel_rfl)) (fun _ _ _ h => h) (Or.inr ⟨by rfl, rfl⟩) ?_ ?_; rotate_left; (·simp only [Act.put, List.setIfInBounds_toArray, List.set_cons_zero, List.set_cons_succ, i64_w, i32_w, Nat.reduceAdd]; rfl); conv => arg 8; arg 2; simp only [Nat.reduceAdd])
          refine pu 13 (v := ?_) (a' := ?_) rfl rfl (any_of HT_.out (by kernel_rfl)) (fun _ _ _ h => h) (Or.inl ⟨by rfl, ?_⟩) ?_ ?_; rotate_left; (·intro w'; go_simp; with_reducible rfl); rotate_left; (·simp only [Act.put, List.setIfInBounds_toArray, List.set_cons_zero, List.set_cons_succ, i64_w, i32_w, Nat.reduceAdd]; rfl); conv => arg 8; arg 2; simp only [Nat.reduceAdd]
          refine done_ (done_of HT_.out (by kernel_rfl)) ?_
          try go_wp2
          go_ret
          exact ⟨by first | rfl | (simp [errW_none, errW_some] <;> rfl) | (simp [*, errW_none, errW_some] <;> rfl), by repeat (first | (with_reducible first | exact HB.out | apply below_alloc | apply pw_below_drewN | apply below_drew1 | refine below_set ?_ GEA.out | refine below_set ?_ GEB.out) | exact HB.out)⟩
        ·replace c16 := Bool.eq_false_iff.mpr c16
         subst c16
         have H1 : (some false) = some r := by rw [if_neg (show ¬ (false = true) by decide)] at H; exact H
         clear H
         have H := H1
         clear H1
         obtain rfl := Option.some.inj H
         have pC : 0 ≤ (x8_1 : Int) := of_decide_eq_true (by first | (with_reducible assumption) | assumption)
         have qC : x8_1 < (l0_6.length : Int) := of_decide_eq_true (by first | (with_reducible assumption) | assumption)
         obtain ⟨adC, eC, hxC_0, hxC_1, hxC_2⟩ := at_T35 HR0_6.out x8_1 pC qC
         cases eC
         replace hxC_0 := (HB.out.cell (World.block_lt_of_cell? w _ hxC_0)).trans hxC_0
         replace hxC_1 := (HB.out.cell (World.block_lt_of_cell? w _ hxC_1)).trans hxC_1
         replace hxC_2 := (HB.out.cell (World.block_lt_of_cell? w _ hxC_2)).trans hxC_2
         replace pC := eq_true pC
         (try replace pCz := eq_true pCz)
         replace qC := eq_true qC
         (try replace qCz := eq_true qCz)
         try go_wp2_with (first | ((with_reducible refine gate_dst (N := 4) rfl ?_); refine box_event ?hg (N := 4) ?hd (cs := #[.string (⟨#[]⟩ : ByteArray), .string (⟨#[]⟩ : ByteArray), .int .i64 0]) (t := 35) ?hr ?_; (case hd => rfl); (case hg => rfl); (case hr => first | (go_simp; done) | (go_simp; rfl)); intro gbB hg w55 hbox hb; have n0_ := Aside0.mk (blk_below (g := gbA) (o := .cells #[.int .i64 a0_0, .int .i64 a0_1, .int .i64 a0_2, .int .i64 a0_3, .int .i64 a0_4, .int .i64 a0_5, .slice (some adC) l0_6.length c0_6] 31 (0, 0)) (by (with_reducible repeat (first | refine blk_drewN ?_ _ | refine blk_drew ?_ | refine blk_alloc ?_ _)); exact BKA.out) hb); have n1_ := Aside0.mk (below_step (by repeat (first | (with_reducible first | exact HB.out | apply below_alloc | apply pw_below_drewN | apply below_drew1 | refine below_set ?_ GEA.out) | exact HB.out)) hb); have n2_ := Aside0.mk (hbox); have n3_ := Aside0.mk ((by rw [hg]; exact (below_size (by repeat (first | (with_reducible first | exact HB.out | apply below_alloc | apply pw_below_drewN | apply below_drew1 | refine below_set ?_ GEA.out) | exact HB.out))) : w.heap.size ≤ gbB)); have n4_ := Aside0.mk ((by rw [hg]; exact (below_size (by repeat (first | (with_reducible first | exact HB.out | apply below_alloc | apply pw_below_drewN | apply below_drew1 | refine below_set ?_ GEA.out) | exact HB.out))) : w.heap.size ≤ gbB)); have n5_ := Aside0.mk ((by rw [hg]; exact Nat.ne_of_lt (blk_lt (g := gbA) (o := .cells #[.int .i64 a0_0, .int .i64 a0_1, .int .i64 a0_2, .int .i64 a0_3, .int .i64 a0_4, .int .i64 a0_5, .slice (some adC) l0_6.length c0_6] 31 (0, 0)) (by (with_reducible repeat (first | refine blk_drewN ?_ _ | refine blk_drew ?_ | refine blk_alloc ?_ _)); exact BKA.out)) : gbA ≠ gbB)); have n6_ := Aside0.mk ((by rw [hg]; exact Nat.ne_of_gt (blk_lt (g := gbA) (o := .cells #[.int .i64 a0_0, .int .i64 a0_1, .int .i64 a0_2, .int .i64 a0_3, .int .i64 a0_4, .int .i64 a0_5, .slice (some adC) l0_6.length c0_6] 31 (0, 0)) (by (with_reducible repeat (first | refine blk_drewN ?_ _ | refine blk_drew ?_ | refine blk_alloc ?_ _)); exact BKA.out)) : gbB ≠ gbA)); clear BKA; clear HB; have BKA := n0_; have HB := n1_; have BKB := n2_; have GWB := n3_; have GEB := n4_; have NBA_B := n5_; have NBB_A := n6_; clear n0_ n1_ n2_ n3_ n4_ n5_ n6_; clear hb hbox hg; have hnb56 := NBB_A.out; have hnc56 := NBA_B.out; have hcz57_0 : w55.cell? ⟨gbB, 0, none⟩ = some (.string (⟨#[]⟩ : ByteArray)) := (blk_cell BKB.out 0).trans rfl; have hcz57_1 : w55.cell? ⟨gbB, 1, none⟩ = some (.string (⟨#[]⟩ : ByteArray)) := (blk_cell BKB.out 1).trans rfl; have hcz57_2 : w55.cell? ⟨gbB, 2, none⟩ = some (.int .i64 0) := (blk_cell BKB.out 2).trans rfl; have hfz57_0 := blk_frozen BKB.out 0; have hfz57_1 := blk_frozen BKB.out 1; have hfz57_2 := blk_frozen BKB.out 2))
         have n0_ : Aside0 ((((w55.setCell ⟨gbB, 0, none⟩ (.string ((rd_T35 l0_6 x8_1).f0))).setCell ⟨gbB, 1, none⟩ (.string ((rd_T35 l0_6 x8_1).f1))).setCell ⟨gbB, 2, none⟩ (.int .i64 ((rd_T35 l0_6 x8_1).f2))).heap[gbA]? = some (.cells #[.int .i64 a0_0, .int .i64 a0_1, .int .i64 a0_2, .int .i64 a0_3, .int .i64 a0_4, .int .i64 a0_5, .slice (some adC) l0_6.length c0_6] 31 (0, 0))) := ⟨by (with_reducible repeat (first | refine blk_drewN ?_ _ | refine blk_drew ?_ | refine blk_alloc ?_ _)); refine blk_far ?_ NBA_B.out _; (with_reducible repeat (first | refine blk_drewN ?_ _ | refine blk_drew ?_ | refine blk_alloc ?_ _)); refine blk_far ?_ NBA_B.out _; (with_reducible repeat (first | refine blk_drewN ?_ _ | refine blk_drew ?_ | refine blk_alloc ?_ _)); refine blk_far ?_ NBA_B.out _; (with_reducible repeat (first | refine blk_drewN ?_ _ | refine blk_drew ?_ | refine blk_alloc ?_ _)); exact BKA.out⟩
         have n1_ : Aside0 ((((w55.setCell ⟨gbB, 0, none⟩ (.string ((rd_T35 l0_6 x8_1).f0))).setCell ⟨gbB, 1, none⟩ (.string ((rd_T35 l0_6 x8_1).f1))).setCell ⟨gbB, 2, none⟩ (.int .i64 ((rd_T35 l0_6 x8_1).f2))).heap[gbB]? = some (.cells #[.string ((rd_T35 l0_6 x8_1).f0), .string ((rd_T35 l0_6 x8_1).f1), .int .i64 ((rd_T35 l0_6 x8_1).f2)] 35 (0, 0))) := ⟨by (with_reducible repeat (first | refine blk_drewN ?_ _ | refine blk_drew ?_ | refine blk_alloc ?_ _)); refine blk_put (cs := #[.string ((rd_T35 l0_6 x8_1).f0), .string ((rd_T35 l0_6 x8_1).f1), .int .i64 0]) ?_ 2 _ rfl; (with_reducible repeat (first | refine blk_drewN ?_ _ | refine blk_drew ?_ | refine blk_alloc ?_ _)); refine blk_put (cs := #[.string ((rd_T35 l0_6 x8_1).f0), .string (⟨#[]⟩ : ByteArray), .int .i64 0]) ?_ 1 _ rfl; (with_reducible repeat (first | refine blk_drewN ?_ _ | refine blk_drew ?_ | refine blk_alloc ?_ _)); refine blk_put (cs := #[.string (⟨#[]⟩ : ByteArray), .string (⟨#[]⟩ : ByteArray), .int .i64 0]) ?_ 0 _ rfl; (with_reducible repeat (first | refine blk_drewN ?_ _ | refine blk_drew ?_ | refine blk_alloc ?_ _)); exact BKB.out⟩
         have n2_ : Aside0 (Below w.heap.size w (((w55.setCell ⟨gbB, 0, none⟩ (.string ((rd_T35 l0_6 x8_1).f0))).setCell ⟨gbB, 1, none⟩ (.string ((rd_T35 l0_6 x8_1).f1))).setCell ⟨gbB, 2, none⟩ (.int .i64 ((rd_T35 l0_6 x8_1).f2)))) := ⟨by repeat (first | (with_reducible first | exact HB.out | apply below_alloc | apply pw_below_drewN | apply below_drew1 | refine below_set ?_ GEA.out | refine below_set ?_ GEB.out) | exact HB.out)⟩
         (try clear BKA)
         (try clear BKB)
         (try clear HB)
         generalize (((w55.setCell ⟨gbB, 0, none⟩ (.string ((rd_T35 l0_6 x8_1).f0))).setCell ⟨gbB, 1, none⟩ (.string ((rd_T35 l0_6 x8_1).f1))).setCell ⟨gbB, 2, none⟩ (.int .i64 ((rd_T35 l0_6 x8_1).f2))) = w58 at n0_ n1_ n2_ ⊢
         have BKA := n0_
         have BKB := n1_
         have HB := n2_
         clear n0_ n1_ n2_
         have n0_ := Aside0.mk (blk_drew BKA.out)
         have n1_ := Aside0.mk (blk_drew BKB.out)
         have n2_ := Aside0.mk (below_drew1 HB.out)
         clear BKA
         clear BKB
         clear HB
         have BKA := n0_
         have BKB := n1_
         have HB := n2_
         clear n0_ n1_ n2_
         refine start_ (n := 35) (S := fun w' => w'.cell? ⟨gbB, 0, none⟩ = some (.string ((rd_T35 l0_6 x8_1).f0)) ∧ w'.cell? ⟨gbB, 1, none⟩ = some (.string ((rd_T35 l0_6 x8_1).f1)) ∧ w'.cell? ⟨gbB, 2, none⟩ = some (.int .i64 ((rd_T35 l0_6 x8_1).f2))) (ds := []) (upT 35 0) (by kernel_rfl) rfl rfl ⟨(blk_cell BKB.out 0).trans rfl, (blk_cell BKB.out 1).trans rfl, (blk_cell BKB.out 2).trans rfl⟩ (fun hHeld => ?_); refine with_tabW msg_Right.tab4 msg_Right.bits4 (fun HT_ HW_ => ?_)
         generalize w58.drew = w59 at BKA BKB HB hHeld ⊢
         iterate 4 (refine pu 13 (v := ?_) (a' := ?_) rfl rfl (any_of HT_.out (by kernel_rfl)) (fun _ _ _ h => h) (Or.inl ⟨by rfl, ?_⟩) ?_ ?_; rotate_left; (·intro w'; go_simp; with_reducible rfl); rotate_left; (·simp only [Act.put, List.setIfInBounds_toArray, List.set_cons_zero, List.set_cons_succ, i64_w, i32_w, Nat.reduceAdd]; rfl); conv => arg 8; arg 2; simp only [Nat.reduceAdd])
         refine take_ (i := 4) (N := some 17) (v := ?_) (a' := ?_) (upT 35 5) rfl rfl (take_ofW HT_.out HW_.out (by kernel_rfl)) (fun _ _ _ h => h) (Or.inl ⟨by rfl, ?_⟩) hHeld ?_ ?_
         rotate_left
         ·rintro w' ⟨s0, s1, s2⟩
          go_simp
          with_reducible rfl
         rotate_left
         ·simp only [Act.put, List.setIfInBounds_toArray, List.set_cons_zero, List.set_cons_succ, i64_w, i32_w]
          rfl
         refine one_ (i := 5) (N := some 18) (upT 35 6) rfl rfl (one_of HT_.out (by kernel_rfl)) (by decide) (fun K hK => ?_)
         refine goes_ Tryd.func29 (by kernel_rfl) rfl #[.string ((rd_T35 l0_6 x8_1).f0)] (by rfl) rfl rfl (by (try simp only [List.map_toArray, List.map_cons, List.map_nil]); first | done | rfl | (simp only [List.length_drop, List.length_take]; rfl)) ?_
         with_reducible refine (label_IsName.calls ((rd_T35 l0_6 x8_1).f0) true _ A13.out).mono ?_
         rintro e w60 ⟨rfl, hb⟩
         refine ⟨_, rfl, ?_⟩
         have n0_ := Aside0.mk (blk_below (g := gbA) (o := .cells #[.int .i64 a0_0, .int .i64 a0_1, .int .i64 a0_2, .int .i64 a0_3, .int .i64 a0_4, .int .i64 a0_5, .slice (some adC) l0_6.length c0_6] 31 (0, 0)) (by (with_reducible repeat (first | refine blk_drewN ?_ _ | refine blk_drew ?_ | refine blk_alloc ?_ _)); exact BKA.out) hb)
         have n1_ := Aside0.mk (blk_below (g := gbB) (o := .cells #[.string ((rd_T35 l0_6 x8_1).f0), .string ((rd_T35 l0_6 x8_1).f1), .int .i64 ((rd_T35 l0_6 x8_1).f2)] 35 (0, 0)) (by (with_reducible repeat (first | refine blk_drewN ?_ _ | refine blk_drew ?_ | refine blk_alloc ?_ _)); exact BKB.out) hb)
         have n2_ := Aside0.mk (below_step (by repeat (first | (with_reducible first | exact HB.out | apply below_alloc | apply pw_below_drewN | apply below_drew1 | refine below_set ?_ GEA.out | refine below_set ?_ GEB.out) | exact HB.out)) hb)
         clear BKA
         clear BKB
         clear HB
         have BKA := n0_
         have BKB := n1_
         have HB := n2_
         clear n0_ n1_ n2_
         (try clear hb)
         (try clear hb2)
         (try clear hk)
         (try clear hi)
         (try clear hge)
         refine hK.out _ _ ⟨(blk_cell BKB.out 0).trans rfl, (blk_cell BKB.out 1).trans rfl, (blk_cell BKB.out 2).trans rfl⟩ (fun hHeld => ?_)
         clear hK K
         refine norm_ (a' := ?_) ?_ ?_
         rotate_left
         ·show Act.put _ (some 18) _ = _
          simp only [Act.put, List.setIfInBounds_toArray, List.set_cons_zero, List.set_cons_succ, i64_w, i32_w]
          rfl
         iterate 4 (refine pu 13 (v := ?_) (a' := ?_) rfl rfl (any_of HT_.out (by kernel_rfl)) (fun _ _ _ h => h) (Or.inl ⟨by rfl, ?_⟩) ?_ ?_; rotate_left; (·intro w'; go_simp; with_reducible rfl); rotate_left; (·simp only [Act.put, List.setIfInBounds_toArray, List.set_cons_zero, List.set_cons_succ, i64_w, i32_w, Nat.reduceAdd]; rfl); conv => arg 8; arg 2; simp only [Nat.reduceAdd])
         refine take_ (i := 10) (N := some 23) (v := ?_) (a' := ?_) (upT 35 11) rfl rfl (take_ofW HT_.out HW_.out (by kernel_rfl)) (fun _ _ _ h => h) (Or.inl ⟨by rfl, ?_⟩) hHeld ?_ ?_
         rotate_left
         ·rintro w' ⟨s0, s1, s2⟩
          go_simp
          with_reducible rfl
         rotate_left
         ·simp only [Act.put, List.setIfInBounds_toArray, List.set_cons_zero, List.set_cons_succ, i64_w, i32_w]
          rfl
         refine one_ (i := 11) (N := some 24) (upT 35 12) rfl rfl (one_of HT_.out (by kernel_rfl)) (by decide) (fun K hK => ?_)
         refine goes_ Tryd.func29 (by kernel_rfl) rfl #[.string ((rd_T35 l0_6 x8_1).f1)] (by rfl) rfl rfl (by (try simp only [List.map_toArray, List.map_cons, List.map_nil]); first | done | rfl | (simp only [List.length_drop, List.length_take]; rfl)) ?_
         with_reducible refine (label_IsName.calls ((rd_T35 l0_6 x8_1).f1) false _ A15.out).mono ?_
         rintro e w61 ⟨rfl, hb⟩
         refine ⟨_, rfl, ?_⟩
         have n0_ := Aside0.mk (blk_below (g := gbA) (o := .cells #[.int .i64 a0_0, .int .i64 a0_1, .int .i64 a0_2, .int .i64 a0_3, .int .i64 a0_4, .int .i64 a0_5, .slice (some adC) l0_6.length c0_6] 31 (0, 0)) (by (with_reducible repeat (first | refine blk_drewN ?_ _ | refine blk_drew ?_ | refine blk_alloc ?_ _)); exact BKA.out) hb)
         have n1_ := Aside0.mk (blk_below (g := gbB) (o := .cells #[.string ((rd_T35 l0_6 x8_1).f0), .string ((rd_T35 l0_6 x8_1).f1), .int .i64 ((rd_T35 l0_6 x8_1).f2)] 35 (0, 0)) (by (with_reducible repeat (first | refine blk_drewN ?_ _ | refine blk_drew ?_ | refine blk_alloc ?_ _)); exact BKB.out) hb)
         have n2_ := Aside0.mk (below_step (by repeat (first | (with_reducible first | exact HB.out | apply below_alloc | apply pw_below_drewN | apply below_drew1 | refine below_set ?_ GEA.out | refine below_set ?_ GEB.out) | exact HB.out)) hb)
         clear BKA
         clear BKB
         clear HB
         have BKA := n0_
         have BKB := n1_
         have HB := n2_
         clear n0_ n1_ n2_
         (try clear hb)
         (try clear hb2)
         (try clear hk)
         (try clear hi)
         (try clear hge)
         refine hK.out _ _ ⟨(blk_cell BKB.out 0).trans rfl, (blk_cell BKB.out 1).trans rfl, (blk_cell BKB.out 2).trans rfl⟩ (fun hHeld => ?_)
         clear hK K
         refine norm_ (a' := ?_) ?_ ?_
         rotate_left
         ·show Act.put _ (some 24) _ = _
          simp only [Act.put, List.setIfInBounds_toArray, List.set_cons_zero, List.set_cons_succ, i64_w, i32_w]
          rfl
         iterate 3 (refine pu 13 (v := ?_) (a' := ?_) rfl rfl (any_of HT_.out (by kernel_rfl)) (fun _ _ _ h => h) (Or.inl ⟨by rfl, ?_⟩) ?_ ?_; rotate_left; (·intro w'; go_simp; with_reducible rfl); rotate_left; (·simp only [Act.put, List.setIfInBounds_toArray, List.set_cons_zero, List.set_cons_succ, i64_w, i32_w, Nat.reduceAdd]; rfl); conv => arg 8; arg 2; simp only [Nat.reduceAdd])
         iterate 4 (refine pu 13 (v := undef) (a' := ?_) rfl rfl (any_of HT_.out (by kernel_rfl)) (fun _ _ _ h => h) (Or.inr ⟨by rfl, rfl⟩) ?_ ?_; rotate_left; (·simp only [Act.put, List.setIfInBounds_toArray, List.set_cons_zero, List.set_cons_succ, i64_w, i32_w, Nat.reduceAdd]; rfl); conv => arg 8; arg 2; simp only [Nat.reduceAdd])
         iterate 2 (refine pu 13 (v := ?_) (a' := ?_) rfl rfl (any_of HT_.out (by kernel_rfl)) (fun _ _ _ h => h) (Or.inl ⟨by rfl, ?_⟩) ?_ ?_; rotate_left; (·intro w'; go_simp; with_reducible rfl); rotate_left; (·simp only [Act.put, List.setIfInBounds_toArray, List.set_cons_zero, List.set_cons_succ, i64_w, i32_w, Nat.reduceAdd]; rfl); conv => arg 8; arg 2; simp only [Nat.reduceAdd])
         iterate 13 (refine pu 13 (v := undef) (a' := ?_) rfl rfl (any_of HT_.out (by kernel_rfl)) (fun _ _ _ h => h) (Or.inr ⟨by rfl, rfl⟩) ?_ ?_; rotate_left; (·simp only [Act.put, List.setIfInBounds_toArray, List.set_cons_zero, List.set_cons_succ, i64_w, i32_w, Nat.reduceAdd]; rfl); conv => arg 8; arg 2; simp only [Nat.reduceAdd])
         refine pu 13 (v := ?_) (a' := ?_) rfl rfl (any_of HT_.out (by kernel_rfl)) (fun _ _ _ h => h) (Or.inl ⟨by rfl, ?_⟩) ?_ ?_; rotate_left; (·intro w'; go_simp; with_reducible rfl); rotate_left; (·simp only [Act.put, List.setIfInBounds_toArray, List.set_cons_zero, List.set_cons_succ, i64_w, i32_w, Nat.reduceAdd]; rfl); conv => arg 8; arg 2; simp only [Nat.reduceAdd]
         refine done_ (done_of HT_.out (by kernel_rfl)) ?_
         try go_wp2
         go_ret
         exact ⟨by first | rfl | (simp [errW_none, errW_some] <;> rfl) | (simp [*, errW_none, errW_some] <;> rfl), by repeat (first | (with_reducible first | exact HB.out | apply below_alloc | apply pw_below_drewN | apply below_drew1 | refine below_set ?_ GEA.out | refine below_set ?_ GEB.out) | exact HB.out)⟩
       ·replace c14 := Bool.eq_false_iff.mpr c14
        subst c14
        have H1 : (some false) = some r := by rw [if_neg (show ¬ (false = true) by decide)] at H; exact H
        clear H
        have H := H1
        clear H1
        obtain rfl := Option.some.inj H
        have pC : 0 ≤ (x8_1 : Int) := of_decide_eq_true (by first | (with_reducible assumption) | assumption)
        have qC : x8_1 < (l0_6.length : Int) := of_decide_eq_true (by first | (with_reducible assumption) | assumption)
        obtain ⟨adC, eC, hxC_0, hxC_1, hxC_2⟩ := at_T35 HR0_6.out x8_1 pC qC
        cases eC
        replace hxC_0 := (HB.out.cell (World.block_lt_of_cell? w _ hxC_0)).trans hxC_0
        replace hxC_1 := (HB.out.cell (World.block_lt_of_cell? w _ hxC_1)).trans hxC_1
        replace hxC_2 := (HB.out.cell (World.block_lt_of_cell? w _ hxC_2)).trans hxC_2
        replace pC := eq_true pC
        (try replace pCz := eq_true pCz)
        replace qC := eq_true qC
        (try replace qCz := eq_true qCz)
        try go_wp2_with (first | ((with_reducible refine gate_dst (N := 4) rfl ?_); refine box_event ?hg (N := 4) ?hd (cs := #[.string (⟨#[]⟩ : ByteArray), .string (⟨#[]⟩ : ByteArray), .int .i64 0]) (t := 35) ?hr ?_; (case hd => rfl); (case hg => rfl); (case hr => first | (go_simp; done) | (go_simp; rfl)); intro gbB hg w62 hbox hb; have n0_ := Aside0.mk (blk_below (g := gbA) (o := .cells #[.int .i64 a0_0, .int .i64 a0_1, .int .i64 a0_2, .int .i64 a0_3, .int .i64 a0_4, .int .i64 a0_5, .slice (some adC) l0_6.length c0_6] 31 (0, 0)) (by (with_reducible repeat (first | refine blk_drewN ?_ _ | refine blk_drew ?_ | refine blk_alloc ?_ _)); exact BKA.out) hb); have n1_ := Aside0.mk (below_step (by repeat (first | (with_reducible first | exact HB.out | apply below_alloc | apply pw_below_drewN | apply below_drew1 | refine below_set ?_ GEA.out) | exact HB.out)) hb); have n2_ := Aside0.mk (hbox); have n3_ := Aside0.mk ((by rw [hg]; exact (below_size (by repeat (first | (with_reducible first | exact HB.out | apply below_alloc | apply pw_below_drewN | apply below_drew1 | refine below_set ?_ GEA.out) | exact HB.out))) : w.heap.size ≤ gbB)); have n4_ := Aside0.mk ((by rw [hg]; exact (below_size (by repeat (first | (with_reducible first | exact HB.out | apply below_alloc | apply pw_below_drewN | apply below_drew1 | refine below_set ?_ GEA.out) | exact HB.out))) : w.heap.size ≤ gbB)); have n5_ := Aside0.mk ((by rw [hg]; exact Nat.ne_of_lt (blk_lt (g := gbA) (o := .cells #[.int .i64 a0_0, .int .i64 a0_1, .int .i64 a0_2, .int .i64 a0_3, .int .i64 a0_4, .int .i64 a0_5, .slice (some adC) l0_6.length c0_6] 31 (0, 0)) (by (with_reducible repeat (first | refine blk_drewN ?_ _ | refine blk_drew ?_ | refine blk_alloc ?_ _)); exact BKA.out)) : gbA ≠ gbB)); have n6_ := Aside0.mk ((by rw [hg]; exact Nat.ne_of_gt (blk_lt (g := gbA) (o := .cells #[.int .i64 a0_0, .int .i64 a0_1, .int .i64 a0_2, .int .i64 a0_3, .int .i64 a0_4, .int .i64 a0_5, .slice (some adC) l0_6.length c0_6] 31 (0, 0)) (by (with_reducible repeat (first | refine blk_drewN ?_ _ | refine blk_drew ?_ | refine blk_alloc ?_ _)); exact BKA.out)) : gbB ≠ gbA)); clear BKA; clear HB; have BKA := n0_; have HB := n1_; have BKB := n2_; have GWB := n3_; have GEB := n4_; have NBA_B := n5_; have NBB_A := n6_; clear n0_ n1_ n2_ n3_ n4_ n5_ n6_; clear hb hbox hg; have hnb63 := NBB_A.out; have hnc63 := NBA_B.out; have hcz64_0 : w62.cell? ⟨gbB, 0, none⟩ = some (.string (⟨#[]⟩ : ByteArray)) := (blk_cell BKB.out 0).trans rfl; have hcz64_1 : w62.cell? ⟨gbB, 1, none⟩ = some (.string (⟨#[]⟩ : ByteArray)) := (blk_cell BKB.out 1).trans rfl; have hcz64_2 : w62.cell? ⟨gbB, 2, none⟩ = some (.int .i64 0) := (blk_cell BKB.out 2).trans rfl; have hfz64_0 := blk_frozen BKB.out 0; have hfz64_1 := blk_frozen BKB.out 1; have hfz64_2 := blk_frozen BKB.out 2))
        have n0_ : Aside0 ((((w62.setCell ⟨gbB, 0, none⟩ (.string ((rd_T35 l0_6 x8_1).f0))).setCell ⟨gbB, 1, none⟩ (.string ((rd_T35 l0_6 x8_1).f1))).setCell ⟨gbB, 2, none⟩ (.int .i64 ((rd_T35 l0_6 x8_1).f2))).heap[gbA]? = some (.cells #[.int .i64 a0_0, .int .i64 a0_1, .int .i64 a0_2, .int .i64 a0_3, .int .i64 a0_4, .int .i64 a0_5, .slice (some adC) l0_6.length c0_6] 31 (0, 0))) := ⟨by (with_reducible repeat (first | refine blk_drewN ?_ _ | refine blk_drew ?_ | refine blk_alloc ?_ _)); refine blk_far ?_ NBA_B.out _; (with_reducible repeat (first | refine blk_drewN ?_ _ | refine blk_drew ?_ | refine blk_alloc ?_ _)); refine blk_far ?_ NBA_B.out _; (with_reducible repeat (first | refine blk_drewN ?_ _ | refine blk_drew ?_ | refine blk_alloc ?_ _)); refine blk_far ?_ NBA_B.out _; (with_reducible repeat (first | refine blk_drewN ?_ _ | refine blk_drew ?_ | refine blk_alloc ?_ _)); exact BKA.out⟩
        have n1_ : Aside0 ((((w62.setCell ⟨gbB, 0, none⟩ (.string ((rd_T35 l0_6 x8_1).f0))).setCell ⟨gbB, 1, none⟩ (.string ((rd_T35 l0_6 x8_1).f1))).setCell ⟨gbB, 2, none⟩ (.int .i64 ((rd_T35 l0_6 x8_1).f2))).heap[gbB]? = some (.cells #[.string ((rd_T35 l0_6 x8_1).f0), .string ((rd_T35 l0_6 x8_1).f1), .int .i64 ((rd_T35 l0_6 x8_1).f2)] 35 (0, 0))) := ⟨by (with_reducible repeat (first | refine blk_drewN ?_ _ | refine blk_drew ?_ | refine blk_alloc ?_ _)); refine blk_put (cs := #[.string ((rd_T35 l0_6 x8_1).f0), .string ((rd_T35 l0_6 x8_1).f1), .int .i64 0]) ?_ 2 _ rfl; (with_reducible repeat (first | refine blk_drewN ?_ _ | refine blk_drew ?_ | refine blk_alloc ?_ _)); refine blk_put (cs := #[.string ((rd_T35 l0_6 x8_1).f0), .string (⟨#[]⟩ : ByteArray), .int .i64 0]) ?_ 1 _ rfl; (with_reducible repeat (first | refine blk_drewN ?_ _ | refine blk_drew ?_ | refine blk_alloc ?_ _)); refine blk_put (cs := #[.string (⟨#[]⟩ : ByteArray), .string (⟨#[]⟩ : ByteArray), .int .i64 0]) ?_ 0 _ rfl; (with_reducible repeat (first | refine blk_drewN ?_ _ | refine blk_drew ?_ | refine blk_alloc ?_ _)); exact BKB.out⟩
        have n2_ : Aside0 (Below w.heap.size w (((w62.setCell ⟨gbB, 0, none⟩ (.string ((rd_T35 l0_6 x8_1).f0))).setCell ⟨gbB, 1, none⟩ (.string ((rd_T35 l0_6 x8_1).f1))).setCell ⟨gbB, 2, none⟩ (.int .i64 ((rd_T35 l0_6 x8_1).f2)))) := ⟨by repeat (first | (with_reducible first | exact HB.out | apply below_alloc | apply pw_below_drewN | apply below_drew1 | refine below_set ?_ GEA.out | refine below_set ?_ GEB.out) | exact HB.out)⟩
        (try clear BKA)
        (try clear BKB)
        (try clear HB)
        generalize (((w62.setCell ⟨gbB, 0, none⟩ (.string ((rd_T35 l0_6 x8_1).f0))).setCell ⟨gbB, 1, none⟩ (.string ((rd_T35 l0_6 x8_1).f1))).setCell ⟨gbB, 2, none⟩ (.int .i64 ((rd_T35 l0_6 x8_1).f2))) = w65 at n0_ n1_ n2_ ⊢
        have BKA := n0_
        have BKB := n1_
        have HB := n2_
        clear n0_ n1_ n2_
        have n0_ := Aside0.mk (blk_drew BKA.out)
        have n1_ := Aside0.mk (blk_drew BKB.out)
        have n2_ := Aside0.mk (below_drew1 HB.out)
        clear BKA
        clear BKB
        clear HB
        have BKA := n0_
        have BKB := n1_
        have HB := n2_
        clear n0_ n1_ n2_
        refine start_ (n := 35) (S := fun w' => w'.cell? ⟨gbB, 0, none⟩ = some (.string ((rd_T35 l0_6 x8_1).f0)) ∧ w'.cell? ⟨gbB, 1, none⟩ = some (.string ((rd_T35 l0_6 x8_1).f1)) ∧ w'.cell? ⟨gbB, 2, none⟩ = some (.int .i64 ((rd_T35 l0_6 x8_1).f2))) (ds := []) (upT 35 0) (by kernel_rfl) rfl rfl ⟨(blk_cell BKB.out 0).trans rfl, (blk_cell BKB.out 1).trans rfl, (blk_cell BKB.out 2).trans rfl⟩ (fun hHeld => ?_); refine with_tabW msg_Right.tab4 msg_Right.bits4 (fun HT_ HW_ => ?_)
        generalize w65.drew = w66 at BKA BKB HB hHeld ⊢
        iterate 4 (refine pu 13 (v := ?_) (a' := ?_) rfl rfl (any_of HT_.out (by kernel_rfl)) (fun _ _ _ h => h) (Or.inl ⟨by rfl, ?_⟩) ?_ ?_; rotate_left; (·intro w'; go_simp; with_reducible rfl); rotate_left; (·simp only [Act.put, List.setIfInBounds_toArray, List.set_cons_zero, List.set_cons_succ, i64_w, i32_w, Nat.reduceAdd]; rfl); conv => arg 8; arg 2; simp only [Nat.reduceAdd])
        refine take_ (i := 4) (N := some 17) (v := ?_) (a' := ?_) (upT 35 5) rfl rfl (take_ofW HT_.out HW_.out (by kernel_rfl)) (fun _ _ _ h => h) (Or.inl ⟨by rfl, ?_⟩) hHeld ?_ ?_
        rotate_left
        ·rintro w' ⟨s0, s1, s2⟩
         go_simp
         with_reducible rfl
        rotate_left
        ·simp only [Act.put, List.setIfInBounds_toArray, List.set_cons_zero, List.set_cons_succ, i64_w, i32_w]
         rfl
        refine one_ (i := 5) (N := some 18) (upT 35 6) rfl rfl (one_of HT_.out (by kernel_rfl)) (by decide) (fun K hK => ?_)
        refine goes_ Tryd.func29 (by kernel_rfl) rfl #[.string ((rd_T35 l0_6 x8_1).f0)] (by rfl) rfl rfl (by (try simp only [List.map_toArray, List.map_cons, List.map_nil]); first | done | rfl | (simp only [List.length_drop, List.length_take]; rfl)) ?_
        with_reducible refine (label_IsName.calls ((rd_T35 l0_6 x8_1).f0) false _ A13.out).mono ?_
        rintro e w67 ⟨rfl, hb⟩
        refine ⟨_, rfl, ?_⟩
        have n0_ := Aside0.mk (blk_below (g := gbA) (o := .cells #[.int .i64 a0_0, .int .i64 a0_1, .int .i64 a0_2, .int .i64 a0_3, .int .i64 a0_4, .int .i64 a0_5, .slice (some adC) l0_6.length c0_6] 31 (0, 0)) (by (with_reducible repeat (first | refine blk_drewN ?_ _ | refine blk_drew ?_ | refine blk_alloc ?_ _)); exact BKA.out) hb)
        have n1_ := Aside0.mk (blk_below (g := gbB) (o := .cells #[.string ((rd_T35 l0_6 x8_1).f0), .string ((rd_T35 l0_6 x8_1).f1), .int .i64 ((rd_T35 l0_6 x8_1).f2)] 35 (0, 0)) (by (with_reducible repeat (first | refine blk_drewN ?_ _ | refine blk_drew ?_ | refine blk_alloc ?_ _)); exact BKB.out) hb)
        have n2_ := Aside0.mk (below_step (by repeat (first | (with_reducible first | exact HB.out | apply below_alloc | apply pw_below_drewN | apply below_drew1 | refine below_set ?_ GEA.out | refine below_set ?_ GEB.out) | exact HB.out)) hb)
        clear BKA
        clear BKB
        clear HB
        have BKA := n0_
        have BKB := n1_
        have HB := n2_
        clear n0_ n1_ n2_
        (try clear hb)
        (try clear hb2)
        (try clear hk)
        (try clear hi)
        (try clear hge)
        refine hK.out _ _ ⟨(blk_cell BKB.out 0).trans rfl, (blk_cell BKB.out 1).trans rfl, (blk_cell BKB.out 2).trans rfl⟩ (fun hHeld => ?_)
        clear hK K
        refine norm_ (a' := ?_) ?_ ?_
        rotate_left
        ·show Act.put _ (some 18) _ = _
         simp only [Act.put, List.setIfInBounds_toArray, List.set_cons_zero, List.set_cons_succ, i64_w, i32_w]
         rfl
        iterate 3 (refine pu 13 (v := ?_) (a' := ?_) rfl rfl (any_of HT_.out (by kernel_rfl)) (fun _ _ _ h => h) (Or.inl ⟨by rfl, ?_⟩) ?_ ?_; rotate_left; (·intro w'; go_simp; with_reducible rfl); rotate_left; (·simp only [Act.put, List.setIfInBounds_toArray, List.set_cons_zero, List.set_cons_succ, i64_w, i32_w, Nat.reduceAdd]; rfl); conv => arg 8; arg 2; simp only [Nat.reduceAdd])
        iterate 4 (refine pu 13 (v := undef) (a' := ?_) rfl rfl (any_of HT_.out (by kernel_rfl)) (fun _ _ _ h => h) (Or.inr ⟨by rfl, rfl⟩) ?_ ?_; rotate_left; (·simp only [Act.put, List.setIfInBounds_toArray, List.set_cons_zero, List.set_cons_succ, i64_w, i32_w, Nat.reduceAdd]; rfl); conv => arg 8; arg 2; simp only [Nat.reduceAdd])
        iterate 2 (refine pu 13 (v := ?_) (a' := ?_) rfl rfl (any_of HT_.out (by kernel_rfl)) (fun _ _ _ h => h) (Or.inl ⟨by rfl, ?_⟩) ?_ ?_; rotate_left; (·intro w'; go_simp; with_reducible rfl); rotate_left; (·simp only [Act.put, List.setIfInBounds_toArray, List.set_cons_zero, List.set_cons_succ, i64_w, i32_w, Nat.reduceAdd]; rfl); conv => arg 8; arg 2; simp only [Nat.reduceAdd])
        iterate 4 (refine pu 13 (v := undef) (a' := ?_) rfl rfl (any_of HT_.out (by kernel_rfl)) (fun _ _ _ h => h) (Or.inr ⟨by rfl, rfl⟩) ?_ ?_; rotate_left; (·simp only [Act.put, List.setIfInBounds_toArray, List.set_cons_zero, List.set_cons_succ, i64_w, i32_w, Nat.reduceAdd]; rfl); conv => arg 8; arg 2; simp only [Nat.reduceAdd])
        iterate 2 (refine pu 13 (v := ?_) (a' := ?_) rfl rfl (any_of HT_.out (by kernel_rfl)) (fun _ _ _ h => h) (Or.inl ⟨by rfl, ?_⟩) ?_ ?_; rotate_left; (·intro w'; go_simp; with_reducible rfl); rotate_left; (·simp only [Act.put, List.setIfInBounds_toArray, List.set_cons_zero, List.set_cons_succ, i64_w, i32_w, Nat.reduceAdd]; rfl); conv => arg 8; arg 2; simp only [Nat.reduceAdd])
        iterate 13 (refine pu 13 (v := undef) (a' := ?_) rfl rfl (any_of HT_.out (by kernel_rfl)) (fun _ _ _ h => h) (Or.inr ⟨by rfl, rfl⟩) ?_ ?_; rotate_left; (·simp only [Act.put, List.setIfInBounds_toArray, List.set_cons_zero, List.set_cons_succ, i64_w, i32_w, Nat.reduceAdd]; rfl); conv => arg 8; arg 2; simp only [Nat.reduceAdd])
        refine pu 13 (v := ?_) (a' := ?_) rfl rfl (any_of HT_.out (by kernel_rfl)) (fun _ _ _ h => h) (Or.inl ⟨by rfl, ?_⟩) ?_ ?_; rotate_left; (·intro w'; go_simp; with_reducible rfl); rotate_left; (·simp only [Act.put, List.setIfInBounds_toArray, List.set_cons_zero, List.set_cons_succ, i64_w, i32_w, Nat.reduceAdd]; rfl); conv => arg 8; arg 2; simp only [Nat.reduceAdd]
        refine done_ (done_of HT_.out (by kernel_rfl)) ?_
        try go_wp2
        go_ret
        exact ⟨by first | rfl | (simp [errW_none, errW_some] <;> rfl) | (simp [*, errW_none, errW_some] <;> rfl), by repeat (first | (with_reducible first | exact HB.out | apply below_alloc | apply pw_below_drewN | apply below_drew1 | refine below_set ?_ GEA.out | refine below_set ?_ GEB.out) | exact HB.out)⟩
     ·rw [if_neg c6] at H
      exact absurd H (by simp)
    ·rw [if_neg c5] at H
     exact absurd H (by simp)
   ·rw [if_neg c4] at H
    have c4b0 : decide (x8_1 < (l0_6.length : Int)) = false := decide_eq_false c4
    clear c4
    replace H := Option.bind_eq_some_iff.mp H
    obtain ⟨tO, AZ, H⟩ := H
    replace H : (if tO = true then ((msg_within.f a0_1 0 2).bind fun tL => (if tL = true then ((msg_within.f a0_2 0 1099511627776).bind fun tJ => (if tJ = true then ((msg_within.f a0_3 0 1099511627776).bind fun tH => (if tH = true then ((msg_within.f a0_4 0 1099511627776).bind fun tF => (if tF = true then ((msg_within.f a0_5 (-2199023255552) 2199023255552).bind fun tE => (some tE)) else (some false))) else (some false))) else (some false))) else (some false))) else (some false)) = some r := H
    have A68 := Aside0.mk AZ
    clear AZ
    by_cases c69 : tO = true
    ·subst c69
     have H1 : ((msg_within.f a0_1 0 2).bind fun tL => (if tL = true then ((msg_within.f a0_2 0 1099511627776).bind fun tJ => (if tJ = true then ((msg_within.f a0_3 0 1099511627776).bind fun tH => (if tH = true then ((msg_within.f a0_4 0 1099511627776).bind fun tF => (if tF = true then ((msg_within.f a0_5 (-2199023255552) 2199023255552).bind fun tE => (some tE)) else (some false))) else (some false))) else (some false))) else (some false))) = some r := by rw [if_pos rfl] at H; exact H
     clear H
     have H := H1
     clear H1
     replace H := Option.bind_eq_some_iff.mp H
     obtain ⟨tL, AAA, H⟩ := H
     replace H : (if tL = true then ((msg_within.f a0_2 0 1099511627776).bind fun tJ => (if tJ = true then ((msg_within.f a0_3 0 1099511627776).bind fun tH => (if tH = true then ((msg_within.f a0_4 0 1099511627776).bind fun tF => (if tF = true then ((msg_within.f a0_5 (-2199023255552) 2199023255552).bind fun tE => (some tE)) else (some false))) else (some false))) else (some false))) else (some false)) = some r := H
     have A70 := Aside0.mk AAA
     clear AAA
     by_cases c71 : tL = true
     ·subst c71
      have H1 : ((msg_within.f a0_2 0 1099511627776).bind fun tJ => (if tJ = true then ((msg_within.f a0_3 0 1099511627776).bind fun tH => (if tH = true then ((msg_within.f a0_4 0 1099511627776).bind fun tF => (if tF = true then ((msg_within.f a0_5 (-2199023255552) 2199023255552).bind fun tE => (some tE)) else (some false))) else (some false))) else (some false))) = some r := by rw [if_pos rfl] at H; exact H
      clear H
      have H := H1
      clear H1
      replace H := Option.bind_eq_some_iff.mp H
      obtain ⟨tJ, AAB, H⟩ := H
      replace H : (if tJ = true then ((msg_within.f a0_3 0 1099511627776).bind fun tH => (if tH = true then ((msg_within.f a0_4 0 1099511627776).bind fun tF => (if tF = true then ((msg_within.f a0_5 (-2199023255552) 2199023255552).bind fun tE => (some tE)) else (some false))) else (some false))) else (some false)) = some r := H
      have A72 := Aside0.mk AAB
      clear AAB
      by_cases c73 : tJ = true
      ·subst c73
       have H1 : ((msg_within.f a0_3 0 1099511627776).bind fun tH => (if tH = true then ((msg_within.f a0_4 0 1099511627776).bind fun tF => (if tF = true then ((msg_within.f a0_5 (-2199023255552) 2199023255552).bind fun tE => (some tE)) else (some false))) else (some false))) = some r := by rw [if_pos rfl] at H; exact H
       clear H
       have H := H1
       clear H1
       replace H := Option.bind_eq_some_iff.mp H
       obtain ⟨tH, AAC, H⟩ := H
       replace H : (if tH = true then ((msg_within.f a0_4 0 1099511627776).bind fun tF => (if tF = true then ((msg_within.f a0_5 (-2199023255552) 2199023255552).bind fun tE => (some tE)) else (some false))) else (some false)) = some r := H
       have A74 := Aside0.mk AAC
       clear AAC
       by_cases c75 : tH = true
       ·subst c75
        have H1 : ((msg_within.f a0_4 0 1099511627776).bind fun tF => (if tF = true then ((msg_within.f a0_5 (-2199023255552) 2199023255552).bind fun tE => (some tE)) else (some false))) = some r := by rw [if_pos rfl] at H; exact H
        clear H
        have H := H1
        clear H1
        replace H := Option.bind_eq_some_iff.mp H
        obtain ⟨tF, AAD, H⟩ := H
        replace H : (if tF = true then ((msg_within.f a0_5 (-2199023255552) 2199023255552).bind fun tE => (some tE)) else (some false)) = some r := H
        have A76 := Aside0.mk AAD
        clear AAD
        by_cases c77 : tF = true
        ·subst c77
         have H1 : ((msg_within.f a0_5 (-2199023255552) 2199023255552).bind fun tE => (some tE)) = some r := by rw [if_pos rfl] at H; exact H
         clear H
         have H := H1
         clear H1
         replace H := Option.bind_eq_some_iff.mp H
         obtain ⟨tE, AAE, H⟩ := H
         replace H : (some tE) = some r := H
         have A78 := Aside0.mk AAE
         clear AAE
         obtain rfl := Option.some.inj H
         have hcz79_0 : wr.cell? ⟨gbA, 0, none⟩ = some (.int .i64 a0_0) := (blk_cell BKA.out 0).trans rfl
         have hcz79_1 : wr.cell? ⟨gbA, 1, none⟩ = some (.int .i64 a0_1) := (blk_cell BKA.out 1).trans rfl
         have hcz79_2 : wr.cell? ⟨gbA, 2, none⟩ = some (.int .i64 a0_2) := (blk_cell BKA.out 2).trans rfl
         have hcz79_3 : wr.cell? ⟨gbA, 3, none⟩ = some (.int .i64 a0_3) := (blk_cell BKA.out 3).trans rfl
         have hcz79_4 : wr.cell? ⟨gbA, 4, none⟩ = some (.int .i64 a0_4) := (blk_cell BKA.out 4).trans rfl
         have hcz79_5 : wr.cell? ⟨gbA, 5, none⟩ = some (.int .i64 a0_5) := (blk_cell BKA.out 5).trans rfl
         have hcz79_6 : wr.cell? ⟨gbA, 6, none⟩ = some (.slice A0_6 l0_6.length c0_6) := (blk_cell BKA.out 6).trans rfl
         have hfz79_0 := blk_frozen BKA.out 0
         have hfz79_1 := blk_frozen BKA.out 1
         have hfz79_2 := blk_frozen BKA.out 2
         have hfz79_3 := blk_frozen BKA.out 3
         have hfz79_4 := blk_frozen BKA.out 4
         have hfz79_5 := blk_frozen BKA.out 5
         have hfz79_6 := blk_frozen BKA.out 6
         go_wp2_with (first | ((with_reducible refine gate_callee (f := 30) rfl ?_); refine goesL_ (some 51) rfl rfl Tryd.func30 (by kernel_rfl) rfl #[.int .i64 a0_0, .int .i64 1, .int .i64 2] rfl (by (try simp only [List.map_toArray, List.map_cons, List.map_nil]); first | done | rfl | (simp only [List.length_drop, List.length_take]; rfl)) ?_; (with_reducible refine (msg_within.calls a0_0 1 2 true _ A68.out).mono ?_); rintro e w' ⟨rfl, ⟨nd, rfl⟩⟩; refine ⟨_, rfl, ?_⟩) | (go_at_call 30; (with_reducible refine (msg_within.calls a0_1 0 2 true _ A70.out).mono ?_); rintro e w' ⟨rfl, ⟨nd, rfl⟩⟩) | (go_at_call 30; (with_reducible refine (msg_within.calls a0_2 0 1099511627776 true _ A72.out).mono ?_); rintro e w' ⟨rfl, ⟨nd, rfl⟩⟩) | (go_at_call 30; (with_reducible refine (msg_within.calls a0_3 0 1099511627776 true _ A74.out).mono ?_); rintro e w' ⟨rfl, ⟨nd, rfl⟩⟩) | (go_at_call 30; (with_reducible refine (msg_within.calls a0_4 0 1099511627776 true _ A76.out).mono ?_); rintro e w' ⟨rfl, ⟨nd, rfl⟩⟩) | (go_at_call 30; (with_reducible refine (msg_within.calls a0_5 (-2199023255552) 2199023255552 tE _ A78.out).mono ?_); rintro e w' ⟨rfl, ⟨nd, rfl⟩⟩))
         go_ret
         exact ⟨by first | rfl | (simp [errW_none, errW_some] <;> rfl) | (simp [*, errW_none, errW_some] <;> rfl), by repeat (first | (with_reducible first | exact HB.out | apply below_alloc | apply pw_below_drewN | apply below_drew1 | refine below_set ?_ GEA.out) | exact HB.out)⟩
        ·replace c77 := Bool.eq_false_iff.mpr c77
         subst c77
         have H1 : (some false) = some r := by rw [if_neg (show ¬ (false = true) by decide)] at H; exact H
         clear H
         have H := H1
         clear H1
         obtain rfl := Option.some.inj H
         have hcz80_0 : wr.cell? ⟨gbA, 0, none⟩ = some (.int .i64 a0_0) := (blk_cell BKA.out 0).trans rfl
         have hcz80_1 : wr.cell? ⟨gbA, 1, none⟩ = some (.int .i64 a0_1) := (blk_cell BKA.out 1).trans rfl
         have hcz80_2 : wr.cell? ⟨gbA, 2, none⟩ = some (.int .i64 a0_2) := (blk_cell BKA.out 2).trans rfl
         have hcz80_3 : wr.cell? ⟨gbA, 3, none⟩ = some (.int .i64 a0_3) := (blk_cell BKA.out 3).trans rfl
         have hcz80_4 : wr.cell? ⟨gbA, 4, none⟩ = some (.int .i64 a0_4) := (blk_cell BKA.out 4).trans rfl
         have hcz80_5 : wr.cell? ⟨gbA, 5, none⟩ = some (.int .i64 a0_5) := (blk_cell BKA.out 5).trans rfl
         have hcz80_6 : wr.cell? ⟨gbA, 6, none⟩ = some (.slice A0_6 l0_6.length c0_6) := (blk_cell BKA.out 6).trans rfl
         have hfz80_0 := blk_frozen BKA.out 0
         have hfz80_1 := blk_frozen BKA.out 1
         have hfz80_2 := blk_frozen BKA.out 2
         have hfz80_3 := blk_frozen BKA.out 3
         have hfz80_4 := blk_frozen BKA.out 4
         have hfz80_5 := blk_frozen BKA.out 5
         have hfz80_6 := blk_frozen BKA.out 6
         go_wp2_with (first | ((with_reducible refine gate_callee (f := 30) rfl ?_); refine goesL_ (some 51) rfl rfl Tryd.func30 (by kernel_rfl) rfl #[.int .i64 a0_0, .int .i64 1, .int .i64 2] rfl (by (try simp only [List.map_toArray, List.map_cons, List.map_nil]); first | done | rfl | (simp only [List.length_drop, List.length_take]; rfl)) ?_; (with_reducible refine (msg_within.calls a0_0 1 2 true _ A68.out).mono ?_); rintro e w' ⟨rfl, ⟨nd, rfl⟩⟩; refine ⟨_, rfl, ?_⟩) | (go_at_call 30; (with_reducible refine (msg_within.calls a0_1 0 2 true _ A70.out).mono ?_); rintro e w' ⟨rfl, ⟨nd, rfl⟩⟩) | (go_at_call 30; (with_reducible refine (msg_within.calls a0_2 0 1099511627776 true _ A72.out).mono ?_); rintro e w' ⟨rfl, ⟨nd, rfl⟩⟩) | (go_at_call 30; (with_reducible refine (msg_within.calls a0_3 0 1099511627776 true _ A74.out).mono ?_); rintro e w' ⟨rfl, ⟨nd, rfl⟩⟩) | (go_at_call 30; (with_reducible refine (msg_within.calls a0_4 0 1099511627776 false _ A76.out).mono ?_); rintro e w' ⟨rfl, ⟨nd, rfl⟩⟩))
         go_ret
         exact ⟨by first | rfl | (simp [errW_none, errW_some] <;> rfl) | (simp [*, errW_none, errW_some] <;> rfl), by repeat (first | (with_reducible first | exact HB.out | apply below_alloc | apply pw_below_drewN | apply below_drew1 | refine below_set ?_ GEA.out) | exact HB.out)⟩
       ·replace c75 := Bool.eq_false_iff.mpr c75
        subst c75
        have H1 : (some false) = some r := by rw [if_neg (show ¬ (false = true) by decide)] at H; exact H
        clear H
        have H := H1
        clear H1
        obtain rfl := Option.some.inj H
        have hcz81_0 : wr.cell? ⟨gbA, 0, none⟩ = some (.int .i64 a0_0) := (blk_cell BKA.out 0).trans rfl
        have hcz81_1 : wr.cell? ⟨gbA, 1, none⟩ = some (.int .i64 a0_1) := (blk_cell BKA.out 1).trans rfl
        have hcz81_2 : wr.cell? ⟨gbA, 2, none⟩ = some (.int .i64 a0_2) := (blk_cell BKA.out 2).trans rfl
        have hcz81_3 : wr.cell? ⟨gbA, 3, none⟩ = some (.int .i64 a0_3) := (blk_cell BKA.out 3).trans rfl
        have hcz81_4 : wr.cell? ⟨gbA, 4, none⟩ = some (.int .i64 a0_4) := (blk_cell BKA.out 4).trans rfl
        have hcz81_5 : wr.cell? ⟨gbA, 5, none⟩ = some (.int .i64 a0_5) := (blk_cell BKA.out 5).trans rfl
        have hcz81_6 : wr.cell? ⟨gbA, 6, none⟩ = some (.slice A0_6 l0_6.length c0_6) := (blk_cell BKA.out 6).trans rfl
        have hfz81_0 := blk_frozen BKA.out 0
        have hfz81_1 := blk_frozen BKA.out 1
        have hfz81_2 := blk_frozen BKA.out 2
        have hfz81_3 := blk_frozen BKA.out 3
        have hfz81_4 := blk_frozen BKA.out 4
        have hfz81_5 := blk_frozen BKA.out 5
        have hfz81_6 := blk_frozen BKA.out 6
        go_wp2_with (first | ((with_reducible refine gate_callee (f := 30) rfl ?_); refine goesL_ (some 51) rfl rfl Tryd.func30 (by kernel_rfl) rfl #[.int .i64 a0_0, .int .i64 1, .int .i64 2] rfl (by (try simp only [List.map_toArray, List.map_cons, List.map_nil]); first | done | rfl | (simp only [List.length_drop, List.length_take]; rfl)) ?_; (with_reducible refine (msg_within.calls a0_0 1 2 true _ A68.out).mono ?_); rintro e w' ⟨rfl, ⟨nd, rfl⟩⟩; refine ⟨_, rfl, ?_⟩) | (go_at_call 30; (with_reducible refine (msg_within.calls a0_1 0 2 true _ A70.out).mono ?_); rintro e w' ⟨rfl, ⟨nd, rfl⟩⟩) | (go_at_call 30; (with_reducible refine (msg_within.calls a0_2 0 1099511627776 true _ A72.out).mono ?_); rintro e w' ⟨rfl, ⟨nd, rfl⟩⟩) | (go_at_call 30; (with_reducible refine (msg_within.calls a0_3 0 1099511627776 false _ A74.out).mono ?_); rintro e w' ⟨rfl, ⟨nd, rfl⟩⟩))
        go_ret
        exact ⟨by first | rfl | (simp [errW_none, errW_some] <;> rfl) | (simp [*, errW_none, errW_some] <;> rfl), by repeat (first | (with_reducible first | exact HB.out | apply below_alloc | apply pw_below_drewN | apply below_drew1 | refine below_set ?_ GEA.out) | exact HB.out)⟩
      ·replace c73 := Bool.eq_false_iff.mpr c73
       subst c73
       have H1 : (some false) = some r := by rw [if_neg (show ¬ (false = true) by decide)] at H; exact H
       clear H
       have H := H1
       clear H1
       obtain rfl := Option.some.inj H
       have hcz82_0 : wr.cell? ⟨gbA, 0, none⟩ = some (.int .i64 a0_0) := (blk_cell BKA.out 0).trans rfl
       have hcz82_1 : wr.cell? ⟨gbA, 1, none⟩ = some (.int .i64 a0_1) := (blk_cell BKA.out 1).trans rfl
       have hcz82_2 : wr.cell? ⟨gbA, 2, none⟩ = some (.int .i64 a0_2) := (blk_cell BKA.out 2).trans rfl
       have hcz82_3 : wr.cell? ⟨gbA, 3, none⟩ = some (.int .i64 a0_3) := (blk_cell BKA.out 3).trans rfl
       have hcz82_4 : wr.cell? ⟨gbA, 4, none⟩ = some (.int .i64 a0_4) := (blk_cell BKA.out 4).trans rfl
       have hcz82_5 : wr.cell? ⟨gbA, 5, none⟩ = some (.int .i64 a0_5) := (blk_cell BKA.out 5).trans rfl
       have hcz82_6 : wr.cell? ⟨gbA, 6, none⟩ = some (.slice A0_6 l0_6.length c0_6) := (blk_cell BKA.out 6).trans rfl
       have hfz82_0 := blk_frozen BKA.out 0
       have hfz82_1 := blk_frozen BKA.out 1
       have hfz82_2 := blk_frozen BKA.out 2
       have hfz82_3 := blk_frozen BKA.out 3
       have hfz82_4 := blk_frozen BKA.out 4
       have hfz82_5 := blk_frozen BKA.out 5
       have hfz82_6 := blk_frozen BKA.out 6
       go_wp2_with (first | ((with_reducible refine gate_callee (f := 30) rfl ?_); refine goesL_ (some 51) rfl rfl Tryd.func30 (by kernel_rfl) rfl #[.int .i64 a0_0, .int .i64 1, .int .i64 2] rfl (by (try simp only [List.map_toArray, List.map_cons, List.map_nil]); first | done | rfl | (simp only [List.length_drop, List.length_take]; rfl)) ?_; (with_reducible refine (msg_within.calls a0_0 1 2 true _ A68.out).mono ?_); rintro e w' ⟨rfl, ⟨nd, rfl⟩⟩; refine ⟨_, rfl, ?_⟩) | (go_at_call 30; (with_reducible refine (msg_within.calls a0_1 0 2 true _ A70.out).mono ?_); rintro e w' ⟨rfl, ⟨nd, rfl⟩⟩) | (go_at_call 30; (with_reducible refine (msg_within.calls a0_2 0 1099511627776 false _ A72.out).mono ?_); rintro e w' ⟨rfl, ⟨nd, rfl⟩⟩))
       go_ret
       exact ⟨by first | rfl | (simp [errW_none, errW_some] <;> rfl) | (simp [*, errW_none, errW_some] <;> rfl), by repeat (first | (with_reducible first | exact HB.out | apply below_alloc | apply pw_below_drewN | apply below_drew1 | refine below_set ?_ GEA.out) | exact HB.out)⟩
     ·replace c71 := Bool.eq_false_iff.mpr c71
      subst c71
      have H1 : (some false) = some r := by rw [if_neg (show ¬ (false = true) by decide)] at H; exact H
      clear H
      have H := H1
      clear H1
      obtain rfl := Option.some.inj H
      have hcz83_0 : wr.cell? ⟨gbA, 0, none⟩ = some (.int .i64 a0_0) := (blk_cell BKA.out 0).trans rfl
      have hcz83_1 : wr.cell? ⟨gbA, 1, none⟩ = some (.int .i64 a0_1) := (blk_cell BKA.out 1).trans rfl
      have hcz83_2 : wr.cell? ⟨gbA, 2, none⟩ = some (.int .i64 a0_2) := (blk_cell BKA.out 2).trans rfl
      have hcz83_3 : wr.cell? ⟨gbA, 3, none⟩ = some (.int .i64 a0_3) := (blk_cell BKA.out 3).trans rfl
      have hcz83_4 : wr.cell? ⟨gbA, 4, none⟩ = some (.int .i64 a0_4) := (blk_cell BKA.out 4).trans rfl
      have hcz83_5 : wr.cell? ⟨gbA, 5, none⟩ = some (.int .i64 a0_5) := (blk_cell BKA.out 5).trans rfl
      have hcz83_6 : wr.cell? ⟨gbA, 6, none⟩ = some (.slice A0_6 l0_6.length c0_6) := (blk_cell BKA.out 6).trans rfl
      have hfz83_0 := blk_frozen BKA.out 0
      have hfz83_1 := blk_frozen BKA.out 1
      have hfz83_2 := blk_frozen BKA.out 2
      have hfz83_3 := blk_frozen BKA.out 3
      have hfz83_4 := blk_frozen BKA.out 4
      have hfz83_5 := blk_frozen BKA.out 5
      have hfz83_6 := blk_frozen BKA.out 6
      go_wp2_with (first | ((with_reducible refine gate_callee (f := 30) rfl ?_); refine goesL_ (some 51) rfl rfl Tryd.func30 (by kernel_rfl) rfl #[.int .i64 a0_0, .int .i64 1, .int .i64 2] rfl (by (try simp only [List.map_toArray, List.map_cons, List.map_nil]); first | done | rfl | (simp only [List.length_drop, List.length_take]; rfl)) ?_; (with_reducible refine (msg_within.calls a0_0 1 2 true _ A68.out).mono ?_); rintro e w' ⟨rfl, ⟨nd, rfl⟩⟩; refine ⟨_, rfl, ?_⟩) | (go_at_call 30; (with_reducible refine (msg_within.calls a0_1 0 2 false _ A70.out).mono ?_); rintro e w' ⟨rfl, ⟨nd, rfl⟩⟩))
      go_ret
      exact ⟨by first | rfl | (simp [errW_none, errW_some] <;> rfl) | (simp [*, errW_none, errW_some] <;> rfl), by repeat (first | (with_reducible first | exact HB.out | apply below_alloc | apply pw_below_drewN | apply below_drew1 | refine below_set ?_ GEA.out) | exact HB.out)⟩
    ·replace c69 := Bool.eq_false_iff.mpr c69
     subst c69
     have H1 : (some false) = some r := by rw [if_neg (show ¬ (false = true) by decide)] at H; exact H
     clear H
     have H := H1
     clear H1
     obtain rfl := Option.some.inj H
     have hcz84_0 : wr.cell? ⟨gbA, 0, none⟩ = some (.int .i64 a0_0) := (blk_cell BKA.out 0).trans rfl
     have hcz84_1 : wr.cell? ⟨gbA, 1, none⟩ = some (.int .i64 a0_1) := (blk_cell BKA.out 1).trans rfl
     have hcz84_2 : wr.cell? ⟨gbA, 2, none⟩ = some (.int .i64 a0_2) := (blk_cell BKA.out 2).trans rfl
     have hcz84_3 : wr.cell? ⟨gbA, 3, none⟩ = some (.int .i64 a0_3) := (blk_cell BKA.out 3).trans rfl
     have hcz84_4 : wr.cell? ⟨gbA, 4, none⟩ = some (.int .i64 a0_4) := (blk_cell BKA.out 4).trans rfl
     have hcz84_5 : wr.cell? ⟨gbA, 5, none⟩ = some (.int .i64 a0_5) := (blk_cell BKA.out 5).trans rfl
     have hcz84_6 : wr.cell? ⟨gbA, 6, none⟩ = some (.slice A0_6 l0_6.length c0_6) := (blk_cell BKA.out 6).trans rfl
     have hfz84_0 := blk_frozen BKA.out 0
     have hfz84_1 := blk_frozen BKA.out 1
     have hfz84_2 := blk_frozen BKA.out 2
     have hfz84_3 := blk_frozen BKA.out 3
     have hfz84_4 := blk_frozen BKA.out 4
     have hfz84_5 := blk_frozen BKA.out 5
     have hfz84_6 := blk_frozen BKA.out 6
     go_wp2_with (first | ((with_reducible refine gate_callee (f := 30) rfl ?_); refine goesL_ (some 51) rfl rfl Tryd.func30 (by kernel_rfl) rfl #[.int .i64 a0_0, .int .i64 1, .int .i64 2] rfl (by (try simp only [List.map_toArray, List.map_cons, List.map_nil]); first | done | rfl | (simp only [List.length_drop, List.length_take]; rfl)) ?_; (with_reducible refine (msg_within.calls a0_0 1 2 false _ A68.out).mono ?_); rintro e w' ⟨rfl, ⟨nd, rfl⟩⟩; refine ⟨_, rfl, ?_⟩))
     go_ret
     exact ⟨by first | rfl | (simp [errW_none, errW_some] <;> rfl) | (simp [*, errW_none, errW_some] <;> rfl), by repeat (first | (with_reducible first | exact HB.out | apply below_alloc | apply pw_below_drewN | apply below_drew1 | refine below_set ?_ GEA.out) | exact HB.out)⟩

end Go.Proofs.YtpgifeoigconbaaDoor.Q
