/- Operations on unlike names, in either order. -/
import Derived.Test.YtldlkbjbfgieeaaGreatDoorLk
import Derived.Test.YtldlkbjbfgieeaaGreatDoorSa
import Derived.Test.YtldlkbjbfgieeaaGreatDoorSy
import Derived.Test.YtldlkbjbfgieeaaGreatDoorAw
namespace Go.Proofs.YtldlkbjbfgieeaaGreatDoor.Lo
set_option linter.unusedVariables false
set_option linter.unusedSimpArgs false
open Go.RowKit Go.Proofs.YtldlkbjbfgieeaaGreatDoorW.PrintWords Go.Proofs.YtldlkbjbfgieeaaGreatDoorW.PrintLast Go.Proofs.YtldlkbjbfgieeaaGreatDoor.Mo Go.Proofs.YtldlkbjbfgieeaaGreatDoor.Q Go.Proofs.YtldlkbjbfgieeaaGreatDoor.Rw Go.Proofs.YtldlkbjbfgieeaaGreatDoor.Cb Go.Proofs.YtldlkbjbfgieeaaGreatDoor.Ch Go.Proofs.YtldlkbjbfgieeaaGreatDoor.Ap Go.Proofs.YtldlkbjbfgieeaaGreatDoor.St Go.Proofs.YtldlkbjbfgieeaaGreatDoor.Su Go.Proofs.YtldlkbjbfgieeaaGreatDoor.Lk
open Go.Proofs.YtldlkbjbfgieeaaGreatDoor.Ri (rightS rightO rightW rightN inB)
open Go.Proofs.YtldlkbjbfgieeaaGreatDoor.Nm (nm)
theorem err0 {k : Int} {a b : Bool} {n m : Nat} (h : errS k a b n m = 0) (n1 m1 : Nat) : errS k a b n1 m1 = if (k = 1 ∧ 8 ≤ n1) ∨ (k = 4 ∧ 8 ≤ m1) then 123 else 0 := by
  unfold errS at h ⊢
  by_cases k1 : k = 1
  · rw [if_pos k1] at h ⊢
    cases a with
    | true => rw [if_pos rfl] at h; exact absurd h (by decide)
    | false =>
      rw [if_neg Bool.false_ne_true]
      by_cases h8 : 8 ≤ n1
      · rw [if_pos h8, if_pos (.inl ⟨k1, h8⟩)]
      · rw [if_neg h8, if_neg (by omega)]
  rw [if_neg k1] at h ⊢
  by_cases k4 : k = 4
  · rw [if_pos k4] at h ⊢
    cases b with
    | true => rw [if_pos rfl] at h; exact absurd h (by decide)
    | false =>
      rw [if_neg Bool.false_ne_true]
      by_cases h8 : 8 ≤ m1
      · rw [if_pos h8, if_pos (.inr ⟨k4, h8⟩)]
      · rw [if_neg h8, if_neg (by omega)]
  rw [if_neg k4] at h ⊢
  rw [if_neg (show ¬ (k = 1 ∧ 8 ≤ n1 ∨ k = 4 ∧ 8 ≤ m1) by omega)]
  exact h
theorem dW_c (k : Int) : (k = 1 ∧ dW k = 1) ∨ (k = 3 ∧ dW k = -1) ∨ (k ≠ 1 ∧ k ≠ 3 ∧ dW k = 0) := by
  unfold dW; split
  · exact .inl ⟨by assumption, rfl⟩
  · split
    · exact .inr (.inl ⟨by assumption, rfl⟩)
    · exact .inr (.inr ⟨by assumption, by assumption, rfl⟩)
theorem dN_c (k : Int) : (k = 4 ∧ dN k = 1) ∨ (k = 5 ∧ dN k = -1) ∨ (k ≠ 4 ∧ k ≠ 5 ∧ dN k = 0) := by
  unfold dN; split
  · exact .inl ⟨by assumption, rfl⟩
  · split
    · exact .inr (.inl ⟨by assumption, rfl⟩)
    · exact .inr (.inr ⟨by assumption, by assumption, rfl⟩)
theorem err_order {ka kb : Int} {a1 b1 a2 b2 : Bool} {n m n1 m1 n2 m2 : Nat} (ha : errS ka a1 b1 n m = 0) (hb : errS kb a2 b2 n m = 0) (h1 : (n1 : Int) = n + dW ka) (h2 : (m1 : Int) = m + dN ka) (h3 : (n2 : Int) = n + dW kb) (h4 : (m2 : Int) = m + dN kb) : errS kb a2 b2 n1 m1 = errS ka a1 b1 n2 m2 := by
  have ea := (err0 ha n m).symm.trans ha
  have eb := (err0 hb n m).symm.trans hb
  have fa : ¬ (ka = 1 ∧ 8 ≤ n ∨ ka = 4 ∧ 8 ≤ m) := fun q => by rw [if_pos q] at ea; exact absurd ea (by decide)
  have fb : ¬ (kb = 1 ∧ 8 ≤ n ∨ kb = 4 ∧ 8 ≤ m) := fun q => by rw [if_pos q] at eb; exact absurd eb (by decide)
  rw [err0 hb n1 m1, err0 ha n2 m2]
  have c1 := dW_c ka
  have c2 := dW_c kb
  have c3 := dN_c ka
  have c4 := dN_c kb
  have : (kb = 1 ∧ 8 ≤ n1 ∨ kb = 4 ∧ 8 ≤ m1) ↔ (ka = 1 ∧ 8 ≤ n2 ∨ ka = 4 ∧ 8 ≤ m2) := by omega
  by_cases q : ka = 1 ∧ 8 ≤ n2 ∨ ka = 4 ∧ 8 ≤ m2
  · rw [if_pos q, if_pos (this.2 q)]
  · rw [if_neg q, if_neg (fun h => q (this.1 h))]
theorem order_law {e : Int} {ws : List W} {ns : List N} {ka kb : Int} {xa xb : W} {ya yb : N} {ia ib : ByteArray} {wa wb : Int} (hs : rightS e ws ns = true) (he : e < 1099511627775) (hoa : rightO ka xa ya ia wa = true) (hob : rightO kb xb yb ib wb = true) (a1 : ka = 1 → xa.f0 = ia) (a4 : ka = 4 → ya.f0 = ia) (b1 : kb = 1 → xb.f0 = ib) (b4 : kb = 4 → yb.f0 = ib) (hne : ia ≠ ib) {X Y : Int × List W × List N × Int} (hX : X = applyS e ws ns ka xa ya ia wa) (hY : Y = applyS e ws ns kb xb yb ib wb) (hx0 : X.2.2.2 = 0) (hy0 : Y.2.2.2 = 0) :
    (applyS X.1 X.2.1 X.2.2.1 kb xb yb ib wb).2.2.2 = (applyS Y.1 Y.2.1 Y.2.2.1 ka xa ya ia wa).2.2.2 ∧ ((applyS X.1 X.2.1 X.2.2.1 kb xb yb ib wb).2.2.2 = 0 → applyS X.1 X.2.1 X.2.2.1 kb xb yb ib wb = applyS Y.1 Y.2.1 Y.2.2.1 ka xa ya ia wa) := by
  have gX := ap_look hs hoa a1 a4 (by omega : e < 1099511627776)
  have gY := ap_look hs hob b1 b4 (by omega : e < 1099511627776)
  have rX := (apply_stays (e := e) (ws := ws) (ns := ns) (k := ka) (x := xa) (y := ya) (id := ia) (want := wa)).1
  have rY := (apply_stays (e := e) (ws := ws) (ns := ns) (k := kb) (x := xb) (y := yb) (id := ib) (want := wb)).1
  rw [← hX] at gX rX
  rw [← hY] at gY rY
  obtain ⟨eX, dX⟩ := gX
  obtain ⟨eY, dY⟩ := gY
  replace dX := dX hx0
  replace dY := dY hy0
  replace rX := rX hx0
  replace rY := rY hy0
  have lX : X.1 < 1099511627776 := by have := dX.ep; split at this <;> omega
  have lY : Y.1 < 1099511627776 := by have := dY.ep; split at this <;> omega
  have gP := ap_look rX hob b1 b4 lX
  have gQ := ap_look rY hoa a1 a4 lY
  obtain ⟨eP, dP⟩ := gP
  obtain ⟨eQ, dQ⟩ := gQ
  rw [dX.lW, dX.lN, if_neg hne, if_neg hne] at eP
  rw [dY.lW, dY.lN, if_neg hne.symm, if_neg hne.symm] at eQ
  have hE := err_order (eX.symm.trans hx0) (eY.symm.trans hy0) dX.nW dX.nN dY.nW dY.nN
  have hEE := eP.trans (hE.trans eQ.symm)
  refine ⟨hEE, fun h0 => ?_⟩
  have dP := dP h0
  have dQ := dQ (hEE.symm.trans h0)
  refine st_ext dP.sW dQ.sW dP.sN dQ.sN ?_ hEE (fun j => ?_) (fun j => ?_)
  · rw [dP.ep, dQ.ep, dX.ep, dY.ep]; omega
  · rw [dP.lW, dQ.lW, dX.lW, dX.lW, dY.lW, dY.lW, if_neg hne, if_neg hne.symm]
    by_cases h1 : ib = j
    · rw [if_pos h1, if_neg (fun h => hne (h.trans h1.symm)), if_pos h1]
    · rw [if_neg h1, if_neg h1]
  · rw [dP.lN, dQ.lN, dX.lN, dX.lN, dY.lN, dY.lN, if_neg hne, if_neg hne.symm]
    by_cases h1 : ib = j
    · rw [if_pos h1, if_neg (fun h => hne (h.trans h1.symm)), if_pos h1]
    · rw [if_neg h1, if_neg h1]
end Go.Proofs.YtldlkbjbfgieeaaGreatDoor.Lo
namespace Go.Proofs.YtldlkbjbfgieeaaGreatDoor.Od
set_option linter.unusedVariables false
set_option linter.unusedSimpArgs false
open Go.RowKit Go.Proofs.YtldlkbjbfgieeaaGreatDoorW.PrintWords Go.Proofs.YtldlkbjbfgieeaaGreatDoorW.PrintLast Go.Proofs.YtldlkbjbfgieeaaGreatDoor.Mo Go.Proofs.YtldlkbjbfgieeaaGreatDoor.Q Go.Proofs.YtldlkbjbfgieeaaGreatDoor.Rw Go.Proofs.YtldlkbjbfgieeaaGreatDoor.Cb Go.Proofs.YtldlkbjbfgieeaaGreatDoor.Ch Go.Proofs.YtldlkbjbfgieeaaGreatDoor.Ap Go.Proofs.YtldlkbjbfgieeaaGreatDoor.St Go.Proofs.YtldlkbjbfgieeaaGreatDoor.Su Go.Proofs.YtldlkbjbfgieeaaGreatDoor.Ft Go.Proofs.YtldlkbjbfgieeaaGreatDoor.Op Go.Proofs.YtldlkbjbfgieeaaGreatDoor.Of Go.Proofs.YtldlkbjbfgieeaaGreatDoor.Lk
open Go.Proofs.YtldlkbjbfgieeaaGreatDoor.La (In64 raw)
open Go.Proofs.YtldlkbjbfgieeaaGreatDoor.Ri (rightS rightO stV Small)
open Go.Proofs.YtldlkbjbfgieeaaGreatDoor.Is (apply_small opX_small opY_small rowW_C rowN_C)
open Go.Proofs.YtldlkbjbfgieeaaGreatDoor.Lo
set_option maxHeartbeats 16000000 in
set_option maxRecDepth 100000 in
theorem order_any (haw : ∀ W, Calls Tryz.prog 11 #[] W fun e w' => e = .returned (.bool true) ∧ Below W.heap.size W w') (A0 : Option Addr) (c0 : Nat) (l : List S40) (w : World) (hl : Kd.C k40 w A0 l.length l) (hc : l.length ≤ c0) (hV : ∀ x ∈ l, In64 x.f0 ∧ In64 x.f1 ∧ In64 x.f2 ∧ ∀ z ∈ x.f3, In64 z) (X1 : S40) (Ar1 : Option Addr) (cr1 : Nat) (hcr1 : X1.f3.length ≤ cr1) (hCr1 : Kd.C (Kd.int .i64) w Ar1 X1.f3.length X1.f3) (hX1 : In64 X1.f0 ∧ In64 X1.f1 ∧ In64 X1.f2 ∧ ∀ z ∈ X1.f3, In64 z) (X2 : S40) (Ar2 : Option Addr) (cr2 : Nat) (hcr2 : X2.f3.length ≤ cr2) (hCr2 : Kd.C (Kd.int .i64) w Ar2 X2.f3.length X2.f3) (hX2 : In64 X2.f0 ∧ In64 X2.f1 ∧ In64 X2.f2 ∧ ∀ z ∈ X2.f3, In64 z) :
    Calls Tryz.prog 5 #[.slice A0 l.length c0, .agg #[.int .i64 X1.f0, .int .i64 X1.f1, .int .i64 X1.f2, .slice Ar1 X1.f3.length cr1], .agg #[.int .i64 X2.f0, .int .i64 X2.f1, .int .i64 X2.f2, .slice Ar2 X2.f3.length cr2]] w fun e w' => e = .returned (.bool true) ∧ Below w.heap.size w w' := by
  have hB := below_alloc (below_alloc (Below.refl w.heap.size w) (rawO X1.f0 X1.f1 X1.f2 Ar1 X1.f3.length cr1)) (rawO X2.f0 X2.f1 X2.f2 Ar2 X2.f3.length cr2)
  have h4 := blk_alloc (blk_new w (rawO X1.f0 X1.f1 X1.f2 Ar1 X1.f3.length cr1)) (rawO X2.f0 X2.f1 X2.f2 Ar2 X2.f3.length cr2)
  have h5 := blk_new (w.alloc (rawO X1.f0 X1.f1 X1.f2 Ar1 X1.f3.length cr1)) (rawO X2.f0 X2.f1 X2.f2 Ar2 X2.f3.length cr2)
  replace hl := Kd.C_below hl hB
  obtain ⟨b4, hg⟩ : ∃ g, g = w.heap.size := ⟨_, rfl⟩
  obtain ⟨b5, ho⟩ : ∃ g, g = w.heap.size + 1 := ⟨_, rfl⟩
  rw [← hg] at h4
  rw [show (w.alloc (rawO X1.f0 X1.f1 X1.f2 Ar1 X1.f3.length cr1)).heap.size = b5 by simp [ho]] at h5
  replace hg := Lib.hid hg
  replace ho := Lib.hid ho
  obtain ⟨T1, L1, kL1, e1, e2, e3, e4, e5, ho1⟩ := op_right hX1.1 hX1.2.1 hX1.2.2.1 hX1.2.2.2
  have hop1 := Lib.hid (fun W (hB : Below w.heap.size w W) => op_any X1.f0 X1.f1 X1.f2 Ar1 cr1 X1.f3 _ T1 L1 kL1 W hcr1 (Kd.C_below hCr1 hB) e1 e2 e3)
  have hsx1 : (opX X1.f0 (nine (raw X1.f1 % 9)) X1.f3 T1).f5.size < 4294967281 := opX_small e4
  have hsy1 : (opY X1.f0 (nine (raw X1.f1 % 9)) X1.f3 L1).f3.size < 4294967281 := opY_small e5
  have hk11 : kOf X1.f0 = 1 → (opX X1.f0 (nine (raw X1.f1 % 9)) X1.f3 T1).f0 = nine (raw X1.f1 % 9) := Sa.opX_id
  have hk41 : kOf X1.f0 = 4 → (opY X1.f0 (nine (raw X1.f1 % 9)) X1.f3 L1).f0 = nine (raw X1.f1 % 9) := Sa.opY_id
  have hnm1 := (nine_of (i := raw X1.f1 % 9) (Nat.mod_lt _ (by decide))).1
  generalize kOf X1.f0 = k1 at *
  generalize opX X1.f0 (nine (raw X1.f1 % 9)) X1.f3 T1 = x1 at *
  generalize opY X1.f0 (nine (raw X1.f1 % 9)) X1.f3 L1 = y1 at *
  generalize nine (raw X1.f1 % 9) = id1 at *
  generalize pk X1.f2 17 = wn1 at *
  clear e1 e2 e3 e4 e5
  obtain ⟨T2, L2, kL2, e1, e2, e3, e4, e5, ho2⟩ := op_right hX2.1 hX2.2.1 hX2.2.2.1 hX2.2.2.2
  have hop2 := Lib.hid (fun W (hB : Below w.heap.size w W) => op_any X2.f0 X2.f1 X2.f2 Ar2 cr2 X2.f3 _ T2 L2 kL2 W hcr2 (Kd.C_below hCr2 hB) e1 e2 e3)
  have hsx2 : (opX X2.f0 (nine (raw X2.f1 % 9)) X2.f3 T2).f5.size < 4294967281 := opX_small e4
  have hsy2 : (opY X2.f0 (nine (raw X2.f1 % 9)) X2.f3 L2).f3.size < 4294967281 := opY_small e5
  have hk12 : kOf X2.f0 = 1 → (opX X2.f0 (nine (raw X2.f1 % 9)) X2.f3 T2).f0 = nine (raw X2.f1 % 9) := Sa.opX_id
  have hk42 : kOf X2.f0 = 4 → (opY X2.f0 (nine (raw X2.f1 % 9)) X2.f3 L2).f0 = nine (raw X2.f1 % 9) := Sa.opY_id
  have hnm2 := (nine_of (i := raw X2.f1 % 9) (Nat.mod_lt _ (by decide))).1
  generalize kOf X2.f0 = k2 at *
  generalize opX X2.f0 (nine (raw X2.f1 % 9)) X2.f3 T2 = x2 at *
  generalize opY X2.f0 (nine (raw X2.f1 % 9)) X2.f3 L2 = y2 at *
  generalize nine (raw X2.f1 % 9) = id2 at *
  generalize pk X2.f2 17 = wn2 at *
  clear e1 e2 e3 e4 e5
  go_enter Tryz.func5, Tryz.ntmps5
  go_wp2_with fail
  rw [← ho.out, ← hg.out]
  revert hB; revert h4; revert h5; revert hl
  generalize (w.alloc (rawO X1.f0 X1.f1 X1.f2 Ar1 X1.f3.length cr1)).alloc (rawO X2.f0 X2.f1 X2.f2 Ar2 X2.f3.length cr2) = wa
  intro hl h5 h4 hB
  refine (haw _).mono ?_
  rintro e' w1 ⟨rfl, hb1⟩
  replace h4 := blk_below h4 hb1
  replace h5 := blk_below h5 hb1
  replace hB := below_then hB hB.size hb1
  replace hl := Kd.C_below hl hb1
  clear hb1
  go_wp2_with fail
  refine (Sa.state_any A0 c0 l w1 hl hc hV).mono ?_
  rintro e' w2 ⟨ep, ws, ns, A, B, c, d, rfl, hA, hN, hlc, hld, hrs, hsm, hep, hb2⟩
  replace h4 := blk_below h4 hb2
  replace h5 := blk_below h5 hb2
  replace hB := below_then hB hB.size hb2
  replace hl := Kd.C_below hl hb2
  clear hb2
  clear hl
  replace hA := Sa.rowW_C hA
  replace hN := Sa.rowN_C hN
  have h8 := blk_new w2 (.cells #[.int .i64 ep, .slice A ws.length c, .slice B ns.length d] 27)
  have qh8 := below_alloc (Below.refl w2.heap.size w2) (.cells #[.int .i64 ep, .slice A ws.length c, .slice B ns.length d] 27)
  replace h4 := blk_below h4 qh8
  replace h5 := blk_below h5 qh8
  replace hB := below_then hB hB.size qh8
  replace hA := Kd.C_below hA qh8
  replace hN := Kd.C_below hN qh8
  clear qh8
  have r0 := (blk_cell h4 0).trans rfl
  have r1 := (blk_cell h4 1).trans rfl
  have r2 := (blk_cell h4 2).trans rfl
  have r3 := (blk_cell h4 3).trans rfl
  go_wp2_with fail
  generalize (w2.alloc (.cells #[.int .i64 ep, .slice A ws.length c, .slice B ns.length d] 27)) = w3 at *
  generalize w2.heap.size = b8 at *
  refine (hop1.out w3 hB).mono ?_
  rintro e' w4 ⟨rfl, hb4⟩
  clear r0 r1 r2 r3
  replace h4 := blk_below h4 hb4
  replace h5 := blk_below h5 hb4
  replace hB := below_then hB hB.size hb4
  replace hA := Kd.C_below hA hb4
  replace hN := Kd.C_below hN hb4
  replace h8 := blk_below h8 hb4
  clear hb4
  have h9 := blk_new w4 (.cells #[.int .i64 k1, .string x1.f0, .int .i64 x1.f1, .int .i64 x1.f2, .int .i64 x1.f3, .int .i64 x1.f4, .string x1.f5, .string y1.f0, .int .i64 y1.f1, .int .i64 y1.f2, .string y1.f3, .bool y1.f4, .string id1, .int .i64 wn1] 36)
  have qh9 := below_alloc (Below.refl w4.heap.size w4) (.cells #[.int .i64 k1, .string x1.f0, .int .i64 x1.f1, .int .i64 x1.f2, .int .i64 x1.f3, .int .i64 x1.f4, .string x1.f5, .string y1.f0, .int .i64 y1.f1, .int .i64 y1.f2, .string y1.f3, .bool y1.f4, .string id1, .int .i64 wn1] 36)
  replace h4 := blk_below h4 qh9
  replace h5 := blk_below h5 qh9
  replace hB := below_then hB hB.size qh9
  replace hA := Kd.C_below hA qh9
  replace hN := Kd.C_below hN qh9
  replace h8 := blk_below h8 qh9
  clear qh9
  have r0 := (blk_cell h5 0).trans rfl
  have r1 := (blk_cell h5 1).trans rfl
  have r2 := (blk_cell h5 2).trans rfl
  have r3 := (blk_cell h5 3).trans rfl
  go_wp2_with fail
  generalize (w4.alloc (.cells #[.int .i64 k1, .string x1.f0, .int .i64 x1.f1, .int .i64 x1.f2, .int .i64 x1.f3, .int .i64 x1.f4, .string x1.f5, .string y1.f0, .int .i64 y1.f1, .int .i64 y1.f2, .string y1.f3, .bool y1.f4, .string id1, .int .i64 wn1] 36)) = w5 at *
  generalize w4.heap.size = b9 at *
  refine (hop2.out w5 hB).mono ?_
  rintro e' w6 ⟨rfl, hb5⟩
  clear r0 r1 r2 r3
  replace h4 := blk_below h4 hb5
  replace h5 := blk_below h5 hb5
  replace hB := below_then hB hB.size hb5
  replace hA := Kd.C_below hA hb5
  replace hN := Kd.C_below hN hb5
  replace h8 := blk_below h8 hb5
  replace h9 := blk_below h9 hb5
  clear hb5
  have h10 := blk_new w6 (.cells #[.int .i64 k2, .string x2.f0, .int .i64 x2.f1, .int .i64 x2.f2, .int .i64 x2.f3, .int .i64 x2.f4, .string x2.f5, .string y2.f0, .int .i64 y2.f1, .int .i64 y2.f2, .string y2.f3, .bool y2.f4, .string id2, .int .i64 wn2] 36)
  have qh10 := below_alloc (Below.refl w6.heap.size w6) (.cells #[.int .i64 k2, .string x2.f0, .int .i64 x2.f1, .int .i64 x2.f2, .int .i64 x2.f3, .int .i64 x2.f4, .string x2.f5, .string y2.f0, .int .i64 y2.f1, .int .i64 y2.f2, .string y2.f3, .bool y2.f4, .string id2, .int .i64 wn2] 36)
  replace h4 := blk_below h4 qh10
  replace h5 := blk_below h5 qh10
  replace hB := below_then hB hB.size qh10
  replace hA := Kd.C_below hA qh10
  replace hN := Kd.C_below hN qh10
  replace h8 := blk_below h8 qh10
  replace h9 := blk_below h9 qh10
  clear qh10
  have s0 := (blk_cell h8 0).trans rfl
  have s1 := (blk_cell h8 1).trans rfl
  have s2 := (blk_cell h8 2).trans rfl
  have o0 := (blk_cell h9 0).trans rfl
  have o1 := (blk_cell h9 1).trans rfl
  have o2 := (blk_cell h9 2).trans rfl
  have o3 := (blk_cell h9 3).trans rfl
  have o4 := (blk_cell h9 4).trans rfl
  have o5 := (blk_cell h9 5).trans rfl
  have o6 := (blk_cell h9 6).trans rfl
  have o7 := (blk_cell h9 7).trans rfl
  have o8 := (blk_cell h9 8).trans rfl
  have o9 := (blk_cell h9 9).trans rfl
  have o10 := (blk_cell h9 10).trans rfl
  have o11 := (blk_cell h9 11).trans rfl
  have o12 := (blk_cell h9 12).trans rfl
  have o13 := (blk_cell h9 13).trans rfl
  go_wp2_with fail
  generalize (w6.alloc (.cells #[.int .i64 k2, .string x2.f0, .int .i64 x2.f1, .int .i64 x2.f2, .int .i64 x2.f3, .int .i64 x2.f4, .string x2.f5, .string y2.f0, .int .i64 y2.f1, .int .i64 y2.f2, .string y2.f3, .bool y2.f4, .string id2, .int .i64 wn2] 36)) = w7 at *
  generalize w6.heap.size = b10 at *
  obtain ⟨X, hX⟩ : ∃ Z_, Z_ = applyS ep ws ns k1 x1 y1 id1 wn1 := ⟨_, rfl⟩
  have hap := apply_any ep A B c d ws ns k1 x1 y1 id1 wn1 w7 hA hlc hN hld hsm hsx1 hsy1
  rw [← hX] at hap
  have hsmX := apply_small (e := ep) (k := k1) (id := id1) (want := wn1) hsm hsx1 hsy1
  rw [← hX] at hsmX
  replace hX := Lib.hid hX
  refine (hap).mono ?_
  rintro e' w8 ⟨AX, BX, rfl, hAX, hBX, hbX⟩
  clear s0 s1 s2 o0 o1 o2 o3 o4 o5 o6 o7 o8 o9 o10 o11 o12 o13
  replace h4 := blk_below h4 hbX
  replace h5 := blk_below h5 hbX
  replace hB := below_then hB hB.size hbX
  replace hA := Kd.C_below hA hbX
  replace hN := Kd.C_below hN hbX
  replace h8 := blk_below h8 hbX
  replace h9 := blk_below h9 hbX
  replace h10 := blk_below h10 hbX
  clear hbX
  clear hap
  replace hAX := rowW_C hAX
  replace hBX := rowN_C hBX
  have h11 := blk_new w8 (.cells #[.int .i64 X.1, .slice AX X.2.1.length X.2.1.length, .slice BX X.2.2.1.length X.2.2.1.length] 27)
  have qh11 := below_alloc (Below.refl w8.heap.size w8) (.cells #[.int .i64 X.1, .slice AX X.2.1.length X.2.1.length, .slice BX X.2.2.1.length X.2.2.1.length] 27)
  replace h4 := blk_below h4 qh11
  replace h5 := blk_below h5 qh11
  replace hB := below_then hB hB.size qh11
  replace hA := Kd.C_below hA qh11
  replace hN := Kd.C_below hN qh11
  replace h8 := blk_below h8 qh11
  replace h9 := blk_below h9 qh11
  replace h10 := blk_below h10 qh11
  replace hAX := Kd.C_below hAX qh11
  replace hBX := Kd.C_below hBX qh11
  clear qh11
  have s0 := (blk_cell h8 0).trans rfl
  have s1 := (blk_cell h8 1).trans rfl
  have s2 := (blk_cell h8 2).trans rfl
  have o0 := (blk_cell h10 0).trans rfl
  have o1 := (blk_cell h10 1).trans rfl
  have o2 := (blk_cell h10 2).trans rfl
  have o3 := (blk_cell h10 3).trans rfl
  have o4 := (blk_cell h10 4).trans rfl
  have o5 := (blk_cell h10 5).trans rfl
  have o6 := (blk_cell h10 6).trans rfl
  have o7 := (blk_cell h10 7).trans rfl
  have o8 := (blk_cell h10 8).trans rfl
  have o9 := (blk_cell h10 9).trans rfl
  have o10 := (blk_cell h10 10).trans rfl
  have o11 := (blk_cell h10 11).trans rfl
  have o12 := (blk_cell h10 12).trans rfl
  have o13 := (blk_cell h10 13).trans rfl
  go_wp2_with fail
  generalize (w8.alloc (.cells #[.int .i64 X.1, .slice AX X.2.1.length X.2.1.length, .slice BX X.2.2.1.length X.2.2.1.length] 27)) = w9 at *
  generalize w8.heap.size = b11 at *
  obtain ⟨Y, hY⟩ : ∃ Z_, Z_ = applyS ep ws ns k2 x2 y2 id2 wn2 := ⟨_, rfl⟩
  have hap := apply_any ep A B c d ws ns k2 x2 y2 id2 wn2 w9 hA hlc hN hld hsm hsx2 hsy2
  rw [← hY] at hap
  have hsmY := apply_small (e := ep) (k := k2) (id := id2) (want := wn2) hsm hsx2 hsy2
  rw [← hY] at hsmY
  replace hY := Lib.hid hY
  refine (hap).mono ?_
  rintro e' w10 ⟨AY, BY, rfl, hAY, hBY, hbY⟩
  clear s0 s1 s2 o0 o1 o2 o3 o4 o5 o6 o7 o8 o9 o10 o11 o12 o13
  replace h4 := blk_below h4 hbY
  replace h5 := blk_below h5 hbY
  replace hB := below_then hB hB.size hbY
  replace hA := Kd.C_below hA hbY
  replace hN := Kd.C_below hN hbY
  replace h8 := blk_below h8 hbY
  replace h9 := blk_below h9 hbY
  replace h10 := blk_below h10 hbY
  replace hAX := Kd.C_below hAX hbY
  replace hBX := Kd.C_below hBX hbY
  replace h11 := blk_below h11 hbY
  clear hbY
  clear hap
  replace hAY := rowW_C hAY
  replace hBY := rowN_C hBY
  have h13 := blk_new w10 (.cells #[.int .i64 Y.1, .slice AY Y.2.1.length Y.2.1.length, .slice BY Y.2.2.1.length Y.2.2.1.length] 27)
  have qh13 := below_alloc (Below.refl w10.heap.size w10) (.cells #[.int .i64 Y.1, .slice AY Y.2.1.length Y.2.1.length, .slice BY Y.2.2.1.length Y.2.2.1.length] 27)
  replace h4 := blk_below h4 qh13
  replace h5 := blk_below h5 qh13
  replace hB := below_then hB hB.size qh13
  replace hA := Kd.C_below hA qh13
  replace hN := Kd.C_below hN qh13
  replace h8 := blk_below h8 qh13
  replace h9 := blk_below h9 qh13
  replace h10 := blk_below h10 qh13
  replace hAX := Kd.C_below hAX qh13
  replace hBX := Kd.C_below hBX qh13
  replace h11 := blk_below h11 qh13
  replace hAY := Kd.C_below hAY qh13
  replace hBY := Kd.C_below hBY qh13
  clear qh13
  have o12 := (blk_cell h9 12).trans rfl
  have p12 := (blk_cell h10 12).trans rfl
  by_cases hid : id1 = id2
  · have e1 := Rx.str_eq hid
    clear hid
    go_wp2_with fail
    go_ret
    exact ⟨rfl, hB⟩
  · have e1 := Rx.str_ne hid
    by_cases hx0 : X.2.2.2 = 0
    · have b1 : (X.2.2.2 != 0) = false := by rw [hx0]; rfl
      by_cases hy0 : Y.2.2.2 = 0
      · have b2 : (Y.2.2.2 != 0) = false := by rw [hy0]; rfl
        have hlaw := order_law hrs (by omega) ho1 ho2 hk11 hk41 hk12 hk42 hid hX.out hY.out hx0 hy0
        have hrX : rightS X.1 X.2.1 X.2.2.1 = true := by have := (apply_stays (e := ep) (ws := ws) (ns := ns) (k := k1) (x := x1) (y := y1) (id := id1) (want := wn1)).1; rw [← hX.out] at this; exact this hx0
        have hrr := Lib.hid (apply_stays (e := X.1) (ws := X.2.1) (ns := X.2.2.1) (k := k2) (x := x2) (y := y2) (id := id2) (want := wn2)).1
        clear hid hx0 hy0
        replace hlaw := Lib.hid hlaw
        replace hep := Lib.hid hep
        replace hrs := Lib.hid hrs
        replace hrX := Lib.hid hrX
        have t0 := (blk_cell h11 0).trans rfl
        have t1 := (blk_cell h11 1).trans rfl
        have t2 := (blk_cell h11 2).trans rfl
        have q0 := (blk_cell h10 0).trans rfl
        have q1 := (blk_cell h10 1).trans rfl
        have q2 := (blk_cell h10 2).trans rfl
        have q3 := (blk_cell h10 3).trans rfl
        have q4 := (blk_cell h10 4).trans rfl
        have q5 := (blk_cell h10 5).trans rfl
        have q6 := (blk_cell h10 6).trans rfl
        have q7 := (blk_cell h10 7).trans rfl
        have q8 := (blk_cell h10 8).trans rfl
        have q9 := (blk_cell h10 9).trans rfl
        have q10 := (blk_cell h10 10).trans rfl
        have q11 := (blk_cell h10 11).trans rfl
        have q13 := (blk_cell h10 13).trans rfl
        go_wp2_with fail
        clear o12 p12 t0 t1 t2 q0 q1 q2 q3 q4 q5 q6 q7 q8 q9 q10 q11 q13
        clear e1 b1 b2
        generalize (w10.alloc (.cells #[.int .i64 Y.1, .slice AY Y.2.1.length Y.2.1.length, .slice BY Y.2.2.1.length Y.2.2.1.length] 27)) = w11 at *
        generalize w10.heap.size = b13 at *
        obtain ⟨P, hP⟩ : ∃ Z_, Z_ = applyS X.1 X.2.1 X.2.2.1 k2 x2 y2 id2 wn2 := ⟨_, rfl⟩
        have hap := apply_any X.1 AX BX X.2.1.length X.2.2.1.length X.2.1 X.2.2.1 k2 x2 y2 id2 wn2 w11 hAX (Nat.le_refl _) hBX (Nat.le_refl _) hsmX hsx2 hsy2
        rw [← hP] at hap
        have hsmP := apply_small (e := X.1) (k := k2) (id := id2) (want := wn2) hsmX hsx2 hsy2
        rw [← hP] at hsmP
        replace hP := Lib.hid hP
        refine (hap).mono ?_
        rintro e' w12 ⟨AP, BP, rfl, hAP, hBP, hbP⟩
        replace h4 := blk_below h4 hbP
        replace h5 := blk_below h5 hbP
        replace hB := below_then hB hB.size hbP
        replace hA := Kd.C_below hA hbP
        replace hN := Kd.C_below hN hbP
        replace h8 := blk_below h8 hbP
        replace h9 := blk_below h9 hbP
        replace h10 := blk_below h10 hbP
        replace hAX := Kd.C_below hAX hbP
        replace hBX := Kd.C_below hBX hbP
        replace h11 := blk_below h11 hbP
        replace hAY := Kd.C_below hAY hbP
        replace hBY := Kd.C_below hBY hbP
        replace h13 := blk_below h13 hbP
        clear hbP
        clear hap
        replace hAP := rowW_C hAP
        replace hBP := rowN_C hBP
        have h15 := blk_new w12 (.cells #[.int .i64 P.1, .slice AP P.2.1.length P.2.1.length, .slice BP P.2.2.1.length P.2.2.1.length] 27)
        have qh15 := below_alloc (Below.refl w12.heap.size w12) (.cells #[.int .i64 P.1, .slice AP P.2.1.length P.2.1.length, .slice BP P.2.2.1.length P.2.2.1.length] 27)
        replace h4 := blk_below h4 qh15
        replace h5 := blk_below h5 qh15
        replace hB := below_then hB hB.size qh15
        replace hA := Kd.C_below hA qh15
        replace hN := Kd.C_below hN qh15
        replace h8 := blk_below h8 qh15
        replace h9 := blk_below h9 qh15
        replace h10 := blk_below h10 qh15
        replace hAX := Kd.C_below hAX qh15
        replace hBX := Kd.C_below hBX qh15
        replace h11 := blk_below h11 qh15
        replace hAY := Kd.C_below hAY qh15
        replace hBY := Kd.C_below hBY qh15
        replace h13 := blk_below h13 qh15
        replace hAP := Kd.C_below hAP qh15
        replace hBP := Kd.C_below hBP qh15
        clear qh15
        have t0 := (blk_cell h13 0).trans rfl
        have t1 := (blk_cell h13 1).trans rfl
        have t2 := (blk_cell h13 2).trans rfl
        have o0 := (blk_cell h9 0).trans rfl
        have o1 := (blk_cell h9 1).trans rfl
        have o2 := (blk_cell h9 2).trans rfl
        have o3 := (blk_cell h9 3).trans rfl
        have o4 := (blk_cell h9 4).trans rfl
        have o5 := (blk_cell h9 5).trans rfl
        have o6 := (blk_cell h9 6).trans rfl
        have o7 := (blk_cell h9 7).trans rfl
        have o8 := (blk_cell h9 8).trans rfl
        have o9 := (blk_cell h9 9).trans rfl
        have o10 := (blk_cell h9 10).trans rfl
        have o11 := (blk_cell h9 11).trans rfl
        have o12 := (blk_cell h9 12).trans rfl
        have o13 := (blk_cell h9 13).trans rfl
        go_wp2_with fail
        generalize (w12.alloc (.cells #[.int .i64 P.1, .slice AP P.2.1.length P.2.1.length, .slice BP P.2.2.1.length P.2.2.1.length] 27)) = w13 at *
        generalize w12.heap.size = b15 at *
        obtain ⟨Q, hQ⟩ : ∃ Z_, Z_ = applyS Y.1 Y.2.1 Y.2.2.1 k1 x1 y1 id1 wn1 := ⟨_, rfl⟩
        have hap := apply_any Y.1 AY BY Y.2.1.length Y.2.2.1.length Y.2.1 Y.2.2.1 k1 x1 y1 id1 wn1 w13 hAY (Nat.le_refl _) hBY (Nat.le_refl _) hsmY hsx1 hsy1
        rw [← hQ] at hap
        have hsmQ := apply_small (e := Y.1) (k := k1) (id := id1) (want := wn1) hsmY hsx1 hsy1
        rw [← hQ] at hsmQ
        replace hQ := Lib.hid hQ
        refine (hap).mono ?_
        rintro e' w14 ⟨AQ, BQ, rfl, hAQ, hBQ, hbQ⟩
        clear t0 t1 t2 o0 o1 o2 o3 o4 o5 o6 o7 o8 o9 o10 o11 o12 o13
        replace h4 := blk_below h4 hbQ
        replace h5 := blk_below h5 hbQ
        replace hB := below_then hB hB.size hbQ
        replace hA := Kd.C_below hA hbQ
        replace hN := Kd.C_below hN hbQ
        replace h8 := blk_below h8 hbQ
        replace h9 := blk_below h9 hbQ
        replace h10 := blk_below h10 hbQ
        replace hAX := Kd.C_below hAX hbQ
        replace hBX := Kd.C_below hBX hbQ
        replace h11 := blk_below h11 hbQ
        replace hAY := Kd.C_below hAY hbQ
        replace hBY := Kd.C_below hBY hbQ
        replace h13 := blk_below h13 hbQ
        replace hAP := Kd.C_below hAP hbQ
        replace hBP := Kd.C_below hBP hbQ
        replace h15 := blk_below h15 hbQ
        clear hbQ
        clear hap
        replace hAQ := rowW_C hAQ
        replace hBQ := rowN_C hBQ
        have h17 := blk_new w14 (.cells #[.int .i64 Q.1, .slice AQ Q.2.1.length Q.2.1.length, .slice BQ Q.2.2.1.length Q.2.2.1.length] 27)
        have qh17 := below_alloc (Below.refl w14.heap.size w14) (.cells #[.int .i64 Q.1, .slice AQ Q.2.1.length Q.2.1.length, .slice BQ Q.2.2.1.length Q.2.2.1.length] 27)
        replace h4 := blk_below h4 qh17
        replace h5 := blk_below h5 qh17
        replace hB := below_then hB hB.size qh17
        replace hA := Kd.C_below hA qh17
        replace hN := Kd.C_below hN qh17
        replace h8 := blk_below h8 qh17
        replace h9 := blk_below h9 qh17
        replace h10 := blk_below h10 qh17
        replace hAX := Kd.C_below hAX qh17
        replace hBX := Kd.C_below hBX qh17
        replace h11 := blk_below h11 qh17
        replace hAY := Kd.C_below hAY qh17
        replace hBY := Kd.C_below hBY qh17
        replace h13 := blk_below h13 qh17
        replace hAP := Kd.C_below hAP qh17
        replace hBP := Kd.C_below hBP qh17
        replace h15 := blk_below h15 qh17
        replace hAQ := Kd.C_below hAQ qh17
        replace hBQ := Kd.C_below hBQ qh17
        clear qh17
        have hlaw2 := hlaw.out
        rw [← hP.out, ← hQ.out] at hlaw2
        rw [← hP.out] at hrr
        clear hlaw
        obtain ⟨hq1, hq2⟩ := hlaw2
        have c1 : (P.2.2.2 == Q.2.2.2) = true := by rw [hq1]; exact beq_self_eq_true _
        have c2 : decide (P.2.2.2 = Q.2.2.2) = true := decide_eq_true hq1
        by_cases h0 : P.2.2.2 = 0
        · have hv := Lib.hid (hq2 h0)
          have hl8 := Lib.hid (show P.2.1.length ≤ 8 ∧ P.2.2.1.length ≤ 8 from ⟨(rightS_iff.1 (hrr.out h0)).2.1, (rightS_iff.1 (hrr.out h0)).2.2.1⟩)
          have b1 : (P.2.2.2 != 0) = false := by rw [h0]; rfl
          clear h0 hq1 hq2
          have t0 := (blk_cell h15 0).trans rfl
          have t1 := (blk_cell h15 1).trans rfl
          have t2 := (blk_cell h15 2).trans rfl
          have u0 := (blk_cell h17 0).trans rfl
          have u1 := (blk_cell h17 1).trans rfl
          have u2 := (blk_cell h17 2).trans rfl
          go_wp2_with fail
          generalize (w14.alloc (.cells #[.int .i64 Q.1, .slice AQ Q.2.1.length Q.2.1.length, .slice BQ Q.2.2.1.length Q.2.2.1.length] 27)) = w15 at *
          generalize w14.heap.size = b17 at *
          rw [← hv.out] at *
          have hcl := Sy.same_yes P.1 AP BP AQ BQ P.2.1.length P.2.2.1.length P.2.1.length P.2.2.1.length P.2.1 P.2.2.1 w15 hAP hBP hAQ hBQ (by have := hl8.out; omega) (by have := hl8.out; omega)
          refine (hcl).mono ?_
          rintro e' w16 ⟨rfl, hbS⟩
          clear t0 t1 t2 u0 u1 u2
          replace h4 := blk_below h4 hbS
          replace h5 := blk_below h5 hbS
          replace hB := below_then hB hB.size hbS
          replace hA := Kd.C_below hA hbS
          replace hN := Kd.C_below hN hbS
          replace h8 := blk_below h8 hbS
          replace h9 := blk_below h9 hbS
          replace h10 := blk_below h10 hbS
          replace hAX := Kd.C_below hAX hbS
          replace hBX := Kd.C_below hBX hbS
          replace h11 := blk_below h11 hbS
          replace hAY := Kd.C_below hAY hbS
          replace hBY := Kd.C_below hBY hbS
          replace h13 := blk_below h13 hbS
          replace hAP := Kd.C_below hAP hbS
          replace hBP := Kd.C_below hBP hbS
          replace h15 := blk_below h15 hbS
          replace hAQ := Kd.C_below hAQ hbS
          replace hBQ := Kd.C_below hBQ hbS
          replace h17 := blk_below h17 hbS
          clear hbS
          go_wp2_with fail
          go_ret
          exact ⟨rfl, hB⟩
        · have b1 : (P.2.2.2 != 0) = true := bne_iff_ne.mpr h0
          clear h0 hq1 hq2
          go_wp2_with fail
          go_ret
          exact ⟨rfl, hB⟩
      · have b2 : (Y.2.2.2 != 0) = true := bne_iff_ne.mpr hy0
        clear hx0 hid hy0
        go_wp2_with fail
        go_ret
        exact ⟨rfl, hB⟩
    · have b1 : (X.2.2.2 != 0) = true := bne_iff_ne.mpr hx0
      clear hx0 hid
      go_wp2_with fail
      go_ret
      exact ⟨rfl, hB⟩
end Go.Proofs.YtldlkbjbfgieeaaGreatDoor.Od
namespace Go.Proofs.YtldlkbjbfgieeaaGreatDoor.Ow
open Go.RowKit Go.Proofs.YtldlkbjbfgieeaaGreatDoorW.PrintWords Go.Proofs.YtldlkbjbfgieeaaGreatDoor.Q
open Go.Proofs.YtldlkbjbfgieeaaGreatDoor.La (In64)
theorem wf_in {y : Int} (h : (Lit.int .i64 y).wf = true) : In64 y := by
  unfold In64
  simpa [Lit.wf, IntKind.min, IntKind.max, IntKind.signed, IntKind.bits] using h
theorem raws_in {l : List S40} {p q : Prop} {b0 b1 : S40 → Prop} (hV : p ∧ q ∧ ∀ x ∈ l, (Lit.int .i64 x.f0).wf = true ∧ (Lit.int .i64 x.f1).wf = true ∧ (Lit.int .i64 x.f2).wf = true ∧ b0 x ∧ b1 x ∧ ∀ y ∈ x.f3, (Lit.int .i64 y).wf = true) :
    ∀ x ∈ l, In64 x.f0 ∧ In64 x.f1 ∧ In64 x.f2 ∧ ∀ z ∈ x.f3, In64 z := fun x hx => ⟨wf_in (hV.2.2 x hx).1, wf_in (hV.2.2 x hx).2.1, wf_in (hV.2.2 x hx).2.2.1, fun z hz => wf_in ((hV.2.2 x hx).2.2.2.2.2 z hz)⟩
theorem order_row (A : Option Addr) (c : Nat) (l : List S40) (f0 f1 f2 : Int) (A1 : Option Addr) (c1 : Nat) (f3 : List Int) (g0 g1 g2 : Int) (A2 : Option Addr) (c2 : Nat) (g3 : List Int) (w : World) (hr : Kd.C k40 w A l.length l) (hc : l.length ≤ c) {p q : Prop} {b0 b1 : S40 → Prop} (hV : p ∧ q ∧ ∀ x ∈ l, (Lit.int .i64 x.f0).wf = true ∧ (Lit.int .i64 x.f1).wf = true ∧ (Lit.int .i64 x.f2).wf = true ∧ b0 x ∧ b1 x ∧ ∀ y ∈ x.f3, (Lit.int .i64 y).wf = true)
    (hr1 : Kd.C (Kd.int .i64) w A1 f3.length f3) (hc1 : f3.length ≤ c1) {p1 q1 : Prop} (hV1 : (Lit.int .i64 f0).wf = true ∧ (Lit.int .i64 f1).wf = true ∧ (Lit.int .i64 f2).wf = true ∧ p1 ∧ q1 ∧ ∀ y ∈ f3, (Lit.int .i64 y).wf = true)
    (hr2 : Kd.C (Kd.int .i64) w A2 g3.length g3) (hc2 : g3.length ≤ c2) {p2 q2 : Prop} (hV2 : (Lit.int .i64 g0).wf = true ∧ (Lit.int .i64 g1).wf = true ∧ (Lit.int .i64 g2).wf = true ∧ p2 ∧ q2 ∧ ∀ y ∈ g3, (Lit.int .i64 y).wf = true) :
    Calls Tryz.prog 5 #[.slice A l.length c, .agg #[.int .i64 f0, .int .i64 f1, .int .i64 f2, .slice A1 f3.length c1], .agg #[.int .i64 g0, .int .i64 g1, .int .i64 g2, .slice A2 g3.length c2]] w fun e w' => e = .returned (.bool true) ∧ Below w.heap.size w w' :=
  Od.order_any Aw.awake_any A c l w hr hc (raws_in hV) ⟨f0, f1, f2, f3⟩ A1 c1 hc1 hr1 ⟨wf_in hV1.1, wf_in hV1.2.1, wf_in hV1.2.2.1, fun z hz => wf_in (hV1.2.2.2.2.2 z hz)⟩ ⟨g0, g1, g2, g3⟩ A2 c2 hc2 hr2 ⟨wf_in hV2.1, wf_in hV2.2.1, wf_in hV2.2.2.1, fun z hz => wf_in (hV2.2.2.2.2.2 z hz)⟩
end Go.Proofs.YtldlkbjbfgieeaaGreatDoor.Ow
