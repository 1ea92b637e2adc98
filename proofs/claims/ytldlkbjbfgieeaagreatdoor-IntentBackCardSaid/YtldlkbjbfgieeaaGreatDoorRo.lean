/- The document's Right of a state, RightOp. -/
/- thin -/
import Derived.Test.YtldlkbjbfgieeaaGreatDoorRq
import Derived.Test.YtldlkbjbfgieeaaGreatDoorAp
namespace Go.Proofs.YtldlkbjbfgieeaaGreatDoor.Ro
set_option linter.unusedVariables false
set_option linter.unusedSimpArgs false
open Go.RowKit Go.Proofs.YtldlkbjbfgieeaaGreatDoorW.PrintWords Go.Proofs.YtldlkbjbfgieeaaGreatDoorW.PrintLast Mo Q Go.Proofs.YtldlkbjbfgieeaaGreatDoor.Nm Cb Rk Rq Rn Ch Ap
open Go.Proofs.YtldlkbjbfgieeaaGreatDoor.Ri (rightW rightN goW goN rightP rightS rightO inB Small stV)
set_option maxHeartbeats 4000000 in
set_option maxRecDepth 100000 in
theorem rright_any (e : Int) (A B : Option Addr) (c d : Nat) (ws : List W) (ns : List N) (w : World) (hA : Kd.C k32 w A ws.length ws) (hc : ws.length ≤ c) (hN : Kd.C k34 w B ns.length ns) (hd : ns.length ≤ d) (hs : Small ws ns) :
 Calls Tryz.prog 27 #[stV e A ws.length c B ns.length d] w fun e' w' => e' = .returned (.bool (rightS e ws ns)) ∧ Below w.heap.size w w' := by
 have hB := below_alloc (Below.refl w.heap.size w) (stC e A ws.length c B ns.length d)
 have hO := blk_new w (stC e A ws.length c B ns.length d)
 have b1 := (blk_cell hO 1).trans rfl
 have b2 := (blk_cell hO 2).trans rfl
 have hcl := rprob_any A B c d ws ns (w.alloc (stC e A ws.length c B ns.length d)) (Kd.C_below hA hB) hc (Kd.C_below hN hB) hd hs
 obtain ⟨r, hr⟩ : ∃ r, r = rightS e ws ns := ⟨_, rfl⟩
 rw [← hr]
 unfold rightS at hr
 generalize rightP ws ns = g at *
 have hcl := Aside0.mk hcl
 clear hA hN
 cases hg : g with
 | false =>
  replace hr := Lib.hid (show r = false from by rw [hr, hg, Bool.and_false])
  subst hg
  go_enter Tryz.func27, Tryz.ntmps27
  go_wp2_with (go_at_call 67; refine hcl.out.mono ?_; rintro e' w1 ⟨rfl, hb1⟩; have hO1 := blk_below hO hb1; have b0 := (blk_cell hO1 0).trans rfl)
  go_ret
  exact ⟨by rw [hr.out]; rfl, below_then hB hB.size hb1⟩
 | true =>
  subst hg
  by_cases q0 : 0 ≤ e
  ·have d0 : decide ((0 : Int) ≤ e) = true := decide_eq_true q0
   by_cases q1 : e ≤ 1099511627776
   ·have d1 : decide (e ≤ (1099511627776 : Int)) = true := decide_eq_true q1
    replace hr := Lib.hid (show r = true from by rw [hr, d0, d1]; rfl)
    clear q0 q1
    go_enter Tryz.func27, Tryz.ntmps27
    go_wp2_with (go_at_call 67; refine hcl.out.mono ?_; rintro e' w1 ⟨rfl, hb1⟩; have hO1 := blk_below hO hb1; have b0 := (blk_cell hO1 0).trans rfl)
    go_ret
    exact ⟨by rw [hr.out]; rfl, below_then hB hB.size hb1⟩
   ·have d1 : decide (e ≤ (1099511627776 : Int)) = false := decide_eq_false q1
    replace hr := Lib.hid (show r = false from by rw [hr, d0, d1]; rfl)
    clear q0 q1
    go_enter Tryz.func27, Tryz.ntmps27
    go_wp2_with (go_at_call 67; refine hcl.out.mono ?_; rintro e' w1 ⟨rfl, hb1⟩; have hO1 := blk_below hO hb1; have b0 := (blk_cell hO1 0).trans rfl)
    go_ret
    exact ⟨by rw [hr.out]; rfl, below_then hB hB.size hb1⟩
  ·have d0 : decide ((0 : Int) ≤ e) = false := decide_eq_false q0
   replace hr := Lib.hid (show r = false from by rw [hr, d0]; rfl)
   clear q0
   go_enter Tryz.func27, Tryz.ntmps27
   go_wp2_with (go_at_call 67; refine hcl.out.mono ?_; rintro e' w1 ⟨rfl, hb1⟩; have hO1 := blk_below hO hb1; have b0 := (blk_cell hO1 0).trans rfl)
   go_ret
   exact ⟨by rw [hr.out]; rfl, below_then hB hB.size hb1⟩
set_option maxHeartbeats 8000000 in
set_option maxRecDepth 100000 in
theorem rop_any (k : Int) (x : W) (y : N) (id : ByteArray) (want : Int) (w : World) (hx : x.f5.size < 4294967281) (hy : y.f3.size < 4294967281) :
 Calls Tryz.prog 39 #[opV k x y id want] w fun e' w' => e' = .returned (.bool (rightO k x y id want)) ∧ Below w.heap.size w w' := by
 have hB := below_alloc (Below.refl w.heap.size w) (opC k x y id want)
 have hO := blk_new w (opC k x y id want)
 have hW := fun W => rwork_any x W hx
 have hY := fun W => rnode_any y W hy
 obtain ⟨r, hr⟩ : ∃ r, r = rightO k x y id want := ⟨_, rfl⟩
 rw [← hr]
 unfold rightO at hr
 have o0 := (blk_cell hO 0).trans rfl
 have o1 := (blk_cell hO 1).trans rfl
 have o2 := (blk_cell hO 2).trans rfl
 have o3 := (blk_cell hO 3).trans rfl
 have o4 := (blk_cell hO 4).trans rfl
 have o5 := (blk_cell hO 5).trans rfl
 have o6 := (blk_cell hO 6).trans rfl
 have o7 := (blk_cell hO 7).trans rfl
 have o8 := (blk_cell hO 8).trans rfl
 have o9 := (blk_cell hO 9).trans rfl
 have o10 := (blk_cell hO 10).trans rfl
 have o11 := (blk_cell hO 11).trans rfl
 have o12 := (blk_cell hO 12).trans rfl
 have o13 := (blk_cell hO 13).trans rfl
 by_cases k1 : k = 1
 ·subst k1
  rw [if_pos rfl] at hr
  have hq : rightP [x] [] = rightW x := by
   unfold rightP goW goN goW
   cases q : rightW x with
   | false => rfl
   | true => rw [nm_W q]; rfl
  rw [hq] at hr
  clear hq
  replace hr := Lib.hid hr
  go_enter Tryz.func39, Tryz.ntmps39
  go_wp2_with (first | (go_at_call 83; refine (rname_any _ _).mono ?_; rintro e' w1 ⟨rfl, rfl⟩) | (go_at_call 84; refine (hW _).mono ?_; rintro e' w2 ⟨rfl, hb2⟩) | (go_at_call 85; refine (hY _).mono ?_; rintro e' w2 ⟨rfl, hb2⟩))
  go_ret
  exact ⟨by rw [hr.out]; rfl, below_then hB hB.size hb2⟩
 by_cases k4 : k = 4
 ·subst k4
  rw [if_neg (by decide), if_pos rfl] at hr
  have hq : rightP [] [y] = rightN y := by
   unfold rightP goW goN goN
   cases q : rightN y with
   | false => rfl
   | true => rw [nm_N q]; rfl
  rw [hq] at hr
  clear hq
  replace hr := Lib.hid hr
  go_enter Tryz.func39, Tryz.ntmps39
  go_wp2_with (first | (go_at_call 83; refine (rname_any _ _).mono ?_; rintro e' w1 ⟨rfl, rfl⟩) | (go_at_call 84; refine (hW _).mono ?_; rintro e' w2 ⟨rfl, hb2⟩) | (go_at_call 85; refine (hY _).mono ?_; rintro e' w2 ⟨rfl, hb2⟩))
  go_ret
  exact ⟨by rw [hr.out]; rfl, below_then hB hB.size hb2⟩
 by_cases k2 : k = 2
 ·subst k2
  rw [if_neg (by decide), if_neg (by decide), if_pos rfl] at hr
  unfold inB at hr
  cases hn : nm id with
  | false =>
   replace hr := Lib.hid (show r = false from by rw [hr, hn]; rfl)
   go_enter Tryz.func39, Tryz.ntmps39
   go_wp2_with (first | (go_at_call 83; refine (rname_any _ _).mono ?_; rintro e' w1 ⟨rfl, rfl⟩) | (go_at_call 84; refine (hW _).mono ?_; rintro e' w2 ⟨rfl, hb2⟩) | (go_at_call 85; refine (hY _).mono ?_; rintro e' w2 ⟨rfl, hb2⟩))
   go_ret
   exact ⟨by rw [hr.out]; rfl, hB⟩
  | true =>
   by_cases q0 : 0 ≤ want
   ·have d0 : decide ((0 : Int) ≤ want) = true := decide_eq_true q0
    by_cases q1 : want ≤ 16
    ·have d1 : decide (want ≤ (16 : Int)) = true := decide_eq_true q1
     replace hr := Lib.hid (show r = true from by rw [hr, hn, d0, d1]; rfl)
     clear q0 q1
     go_enter Tryz.func39, Tryz.ntmps39
     go_wp2_with (first | (go_at_call 83; refine (rname_any _ _).mono ?_; rintro e' w1 ⟨rfl, rfl⟩) | (go_at_call 84; refine (hW _).mono ?_; rintro e' w2 ⟨rfl, hb2⟩) | (go_at_call 85; refine (hY _).mono ?_; rintro e' w2 ⟨rfl, hb2⟩))
     go_ret
     exact ⟨by rw [hr.out]; rfl, hB⟩
    ·have d1 : decide (want ≤ (16 : Int)) = false := decide_eq_false q1
     replace hr := Lib.hid (show r = false from by rw [hr, hn, d0, d1]; rfl)
     clear q0 q1
     go_enter Tryz.func39, Tryz.ntmps39
     go_wp2_with (first | (go_at_call 83; refine (rname_any _ _).mono ?_; rintro e' w1 ⟨rfl, rfl⟩) | (go_at_call 84; refine (hW _).mono ?_; rintro e' w2 ⟨rfl, hb2⟩) | (go_at_call 85; refine (hY _).mono ?_; rintro e' w2 ⟨rfl, hb2⟩))
     go_ret
     exact ⟨by rw [hr.out]; rfl, hB⟩
   ·have d0 : decide ((0 : Int) ≤ want) = false := decide_eq_false q0
    replace hr := Lib.hid (show r = false from by rw [hr, hn, d0]; rfl)
    clear q0
    go_enter Tryz.func39, Tryz.ntmps39
    go_wp2_with (first | (go_at_call 83; refine (rname_any _ _).mono ?_; rintro e' w1 ⟨rfl, rfl⟩) | (go_at_call 84; refine (hW _).mono ?_; rintro e' w2 ⟨rfl, hb2⟩) | (go_at_call 85; refine (hY _).mono ?_; rintro e' w2 ⟨rfl, hb2⟩))
    go_ret
    exact ⟨by rw [hr.out]; rfl, hB⟩
 by_cases k3 : k = 3
 ·subst k3
  rw [if_neg (by decide), if_neg (by decide), if_neg (by decide), if_pos rfl] at hr
  replace hr := Lib.hid hr
  go_enter Tryz.func39, Tryz.ntmps39
  go_wp2_with (first | (go_at_call 83; refine (rname_any _ _).mono ?_; rintro e' w1 ⟨rfl, rfl⟩) | (go_at_call 84; refine (hW _).mono ?_; rintro e' w2 ⟨rfl, hb2⟩) | (go_at_call 85; refine (hY _).mono ?_; rintro e' w2 ⟨rfl, hb2⟩))
  go_ret
  exact ⟨by rw [hr.out]; rfl, hB⟩
 by_cases k5 : k = 5
 ·subst k5
  rw [if_neg (by decide), if_neg (by decide), if_neg (by decide), if_neg (by decide), if_pos rfl] at hr
  replace hr := Lib.hid hr
  go_enter Tryz.func39, Tryz.ntmps39
  go_wp2_with (first | (go_at_call 83; refine (rname_any _ _).mono ?_; rintro e' w1 ⟨rfl, rfl⟩) | (go_at_call 84; refine (hW _).mono ?_; rintro e' w2 ⟨rfl, hb2⟩) | (go_at_call 85; refine (hY _).mono ?_; rintro e' w2 ⟨rfl, hb2⟩))
  go_ret
  exact ⟨by rw [hr.out]; rfl, hB⟩
 by_cases k6 : k = 6
 ·subst k6
  rw [if_neg (by decide), if_neg (by decide), if_neg (by decide), if_neg (by decide), if_neg (by decide), if_pos rfl] at hr
  replace hr := Lib.hid hr
  go_enter Tryz.func39, Tryz.ntmps39
  go_wp2_with (first | (go_at_call 83; refine (rname_any _ _).mono ?_; rintro e' w1 ⟨rfl, rfl⟩) | (go_at_call 84; refine (hW _).mono ?_; rintro e' w2 ⟨rfl, hb2⟩) | (go_at_call 85; refine (hY _).mono ?_; rintro e' w2 ⟨rfl, hb2⟩))
  go_ret
  exact ⟨by rw [hr.out]; rfl, hB⟩
 by_cases k7 : k = 7
 ·subst k7
  rw [if_neg (by decide), if_neg (by decide), if_neg (by decide), if_neg (by decide), if_neg (by decide), if_neg (by decide), if_pos rfl] at hr
  replace hr := Lib.hid hr
  go_enter Tryz.func39, Tryz.ntmps39
  go_wp2_with (first | (go_at_call 83; refine (rname_any _ _).mono ?_; rintro e' w1 ⟨rfl, rfl⟩) | (go_at_call 84; refine (hW _).mono ?_; rintro e' w2 ⟨rfl, hb2⟩) | (go_at_call 85; refine (hY _).mono ?_; rintro e' w2 ⟨rfl, hb2⟩))
  go_ret
  exact ⟨by rw [hr.out]; rfl, hB⟩
 rw [if_neg k1, if_neg k4, if_neg k2, if_neg k3, if_neg k5, if_neg k6, if_neg k7] at hr
 have e1 : (k == 1) = false := beq_eq_false_iff_ne.mpr k1
 have e4 : (k == 4) = false := beq_eq_false_iff_ne.mpr k4
 have e2 : (k == 2) = false := beq_eq_false_iff_ne.mpr k2
 have e3 : (k == 3) = false := beq_eq_false_iff_ne.mpr k3
 have e5 : (k == 5) = false := beq_eq_false_iff_ne.mpr k5
 have e6 : (k == 6) = false := beq_eq_false_iff_ne.mpr k6
 have e7 : (k == 7) = false := beq_eq_false_iff_ne.mpr k7
 by_cases k8 : k = 8
 ·have e8 : (k == 8) = true := beq_iff_eq.mpr k8
  rw [decide_eq_true k8] at hr
  replace hr := Lib.hid hr
  clear k1 k4 k2 k3 k5 k6 k7 k8
  go_enter Tryz.func39, Tryz.ntmps39
  go_wp2_with (first | (go_at_call 83; refine (rname_any _ _).mono ?_; rintro e' w1 ⟨rfl, rfl⟩) | (go_at_call 84; refine (hW _).mono ?_; rintro e' w2 ⟨rfl, hb2⟩) | (go_at_call 85; refine (hY _).mono ?_; rintro e' w2 ⟨rfl, hb2⟩))
  go_ret
  exact ⟨by rw [hr.out]; rfl, hB⟩
 ·have e8 : (k == 8) = false := beq_eq_false_iff_ne.mpr k8
  rw [decide_eq_false k8] at hr
  replace hr := Lib.hid hr
  clear k1 k4 k2 k3 k5 k6 k7 k8
  go_enter Tryz.func39, Tryz.ntmps39
  go_wp2_with (first | (go_at_call 83; refine (rname_any _ _).mono ?_; rintro e' w1 ⟨rfl, rfl⟩) | (go_at_call 84; refine (hW _).mono ?_; rintro e' w2 ⟨rfl, hb2⟩) | (go_at_call 85; refine (hY _).mono ?_; rintro e' w2 ⟨rfl, hb2⟩))
  go_ret
  exact ⟨by rw [hr.out]; rfl, hB⟩
end Go.Proofs.YtldlkbjbfgieeaaGreatDoor.Ro
