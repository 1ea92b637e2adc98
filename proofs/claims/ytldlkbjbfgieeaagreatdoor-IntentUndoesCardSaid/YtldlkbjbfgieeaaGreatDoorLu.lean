/- What undoes an operation. -/
import Derived.Test.YtldlkbjbfgieeaaGreatDoorLk
namespace Go.Proofs.YtldlkbjbfgieeaaGreatDoor.Lu
set_option linter.unusedVariables false
set_option linter.unusedSimpArgs false
open Go.RowKit Go.Proofs.YtldlkbjbfgieeaaGreatDoorW.PrintWords Go.Proofs.YtldlkbjbfgieeaaGreatDoorW.PrintLast Go.Proofs.YtldlkbjbfgieeaaGreatDoor.Mo Go.Proofs.YtldlkbjbfgieeaaGreatDoor.Q Go.Proofs.YtldlkbjbfgieeaaGreatDoor.Rw Go.Proofs.YtldlkbjbfgieeaaGreatDoor.Cb Go.Proofs.YtldlkbjbfgieeaaGreatDoor.Ch Go.Proofs.YtldlkbjbfgieeaaGreatDoor.Ap Go.Proofs.YtldlkbjbfgieeaaGreatDoor.St Go.Proofs.YtldlkbjbfgieeaaGreatDoor.Su Go.Proofs.YtldlkbjbfgieeaaGreatDoor.Lk
open Go.Proofs.YtldlkbjbfgieeaaGreatDoor.Ri (rightS rightO rightW rightN inB)
open Go.Proofs.YtldlkbjbfgieeaaGreatDoor.Nm (nm)
/-- the operation that undoes another: its kind, its workload, its node, its want -/
def bK (k : Int) : Int := if k = 1 then 3 else if k = 4 then 5 else if k = 6 then 7 else if k = 7 then 6 else if k = 2 then 2 else if k = 3 then 1 else 4
def bX (k : Int) (o : Option W) : W := if k = 3 then o.getD zW else zW
def bY (k : Int) (o : Option N) : N := if k = 5 then o.getD zN else zN
def bV (k : Int) (o : Option W) : Int := if k = 2 then (o.getD zW).f1 else 0
theorem mem_W {e : Int} {ws : List W} {ns : List N} {id : ByteArray} {z : W} (hs : rightS e ws ns = true) (h : St.look fw ws id = some z) : rightW z = true ∧ lt ByteArray.empty z.f0 = true ∧ z.f0 = id := by
  obtain ⟨h1, h2⟩ := look_mem fw h
  have := (rightS_iff.1 hs).2.2.2.1.2 z h1
  exact ⟨this.1, this.2, h2⟩
theorem mem_N {e : Int} {ws : List W} {ns : List N} {id : ByteArray} {z : N} (hs : rightS e ws ns = true) (h : St.look fn ns id = some z) : rightN z = true ∧ lt ByteArray.empty z.f0 = true ∧ z.f0 = id := by
  obtain ⟨h1, h2⟩ := look_mem fn h
  have := (rightS_iff.1 hs).2.2.2.2.2 z h1
  exact ⟨this.1, this.2, h2⟩
theorem want_W {z : W} (h : rightW z = true) : 0 ≤ z.f1 ∧ z.f1 ≤ 16 := by
  unfold rightW inB at h
  simp only [Bool.and_eq_true, decide_eq_true_eq] at h
  omega
theorem undo_right {e : Int} {ws : List W} {ns : List N} {k : Int} {x : W} {y : N} {id : ByteArray} {want : Int} (hs : rightS e ws ns = true) (hk : 1 ≤ k ∧ k ≤ 8) (hk8 : k ≠ 8) (hnm : nm id = true) (h0 : errS k (St.look fw ws id).isSome (St.look fn ns id).isSome ws.length ns.length = 0) :
    rightO (bK k) (bX k (St.look fw ws id)) (bY k (St.look fn ns id)) id (bV k (St.look fw ws id)) = true ∧ (bK k = 1 → (bX k (St.look fw ws id)).f0 = id) ∧ (bK k = 4 → (bY k (St.look fn ns id)).f0 = id) := by
  rcases (show k = 1 ∨ k = 2 ∨ k = 3 ∨ k = 4 ∨ k = 5 ∨ k = 6 ∨ k = 7 from by omega) with rfl | rfl | rfl | rfl | rfl | rfl | rfl
  · exact ⟨hnm, fun h => absurd h (by decide), fun h => absurd h (by decide)⟩
  · cases h : St.look fw ws id with
    | none => rw [h] at h0; exact absurd h0 (by show ¬ (122 : Int) = 0; decide)
    | some z =>
      obtain ⟨z1, z2, z3⟩ := mem_W hs h
      refine ⟨?_, fun h => absurd h (by decide), fun h => absurd h (by decide)⟩
      show (nm id && inB z.f1 0 16) = true
      rw [hnm, Of.inB_of (want_W z1).1 (want_W z1).2]; rfl
  · cases h : St.look fw ws id with
    | none => rw [h] at h0; exact absurd h0 (by show ¬ (122 : Int) = 0; decide)
    | some z =>
      obtain ⟨z1, z2, z3⟩ := mem_W hs h
      refine ⟨?_, fun _ => z3, fun h => absurd h (by decide)⟩
      show Ri.rightP [z] [] = true
      unfold Ri.rightP Ri.goW Ri.goN Ri.goW
      rw [z1, z2]; rfl
  · exact ⟨hnm, fun h => absurd h (by decide), fun h => absurd h (by decide)⟩
  · cases h : St.look fn ns id with
    | none => rw [h] at h0; exact absurd h0 (by show ¬ (122 : Int) = 0; decide)
    | some z =>
      obtain ⟨z1, z2, z3⟩ := mem_N hs h
      refine ⟨?_, fun h => absurd h (by decide), fun _ => z3⟩
      show Ri.rightP [] [z] = true
      unfold Ri.rightP Ri.goW Ri.goN Ri.goN
      rw [z1, z2]; rfl
  · exact ⟨hnm, fun h => absurd h (by decide), fun h => absurd h (by decide)⟩
  · exact ⟨hnm, fun h => absurd h (by decide), fun h => absurd h (by decide)⟩
/-- whether a node is cordoned already as an operation asks -/
def asAsked (k : Int) (o : Option N) : Bool := match o with
  | none => false
  | some z => decide (z.f4 = decide (k = 6))
theorem undo_law {e : Int} {ws : List W} {ns : List N} {k : Int} {x : W} {y : N} {id : ByteArray} {want : Int} (hs : rightS e ws ns = true) (he : e < 1099511627775) (ho : rightO k x y id want = true) (hk8 : k ≠ 8) (hnm : nm id = true) (h1 : k = 1 → x.f0 = id) (h4 : k = 4 → y.f0 = id) {T : Int × List W × List N × Int} (hT : T = applyS e ws ns k x y id want) (h0 : T.2.2.2 = 0) :
    (applyS T.1 T.2.1 T.2.2.1 (bK k) (bX k (St.look fw ws id)) (bY k (St.look fn ns id)) id (bV k (St.look fw ws id))).2.2.2 = 0 ∧ ((k = 6 ∨ k = 7) ∧ asAsked k (St.look fn ns id) = true ∨ applyS T.1 T.2.1 T.2.2.1 (bK k) (bX k (St.look fw ws id)) (bY k (St.look fn ns id)) id (bV k (St.look fw ws id)) = (e, ws, ns, 0)) := by
  have gT := ap_look hs ho h1 h4 (by omega : e < 1099511627776)
  have rT := (apply_stays (e := e) (ws := ws) (ns := ns) (k := k) (x := x) (y := y) (id := id) (want := want)).1
  rw [← hT] at gT rT
  obtain ⟨eT, dT⟩ := gT
  replace dT := dT h0
  replace rT := rT h0
  rw [h0] at eT
  have hk := op_range ho
  obtain ⟨ho2, b1, b4⟩ := undo_right (x := x) (y := y) (want := want) hs hk hk8 hnm eT.symm
  have epT : T.1 = e := by rw [dT.ep, if_neg hk8]; omega
  obtain ⟨hes, hw8, hn8, hW, hN⟩ := rightS_iff.1 hs
  obtain ⟨eU, dU⟩ := ap_look rT ho2 b1 b4 (by omega)
  rw [dT.lW, dT.lN, if_pos rfl, if_pos rfl] at eU
  have fin : ∀ {r : Int × List W × List N × Int}, r.2.2.2 = 0 → r.1 = e → Sorted fw r.2.1 → Sorted fn r.2.2.1 → (∀ j, St.look fw r.2.1 j = St.look fw ws j) → (∀ j, St.look fn r.2.2.1 j = St.look fn ns j) → r = (e, ws, ns, 0) := fun h0 he h1 h2 h3 h4 => st_ext h1 hW.1 h2 hN.1 he h0 h3 h4
  have key : (applyS T.1 T.2.1 T.2.2.1 (bK k) (bX k (St.look fw ws id)) (bY k (St.look fn ns id)) id (bV k (St.look fw ws id))).2.2.2 = 0 → upW (bK k) (bX k (St.look fw ws id)) (bV k (St.look fw ws id)) (upW k x want (St.look fw ws id)) = St.look fw ws id → upN (bK k) (bY k (St.look fn ns id)) (upN k y (St.look fn ns id)) = St.look fn ns id → applyS T.1 T.2.1 T.2.2.1 (bK k) (bX k (St.look fw ws id)) (bY k (St.look fn ns id)) id (bV k (St.look fw ws id)) = (e, ws, ns, 0) := fun u0 q1 q2 => by
    have dU := dU u0
    refine fin u0 ?_ dU.sW dU.sN (fun j => ?_) (fun j => ?_)
    · rw [dU.ep, epT, if_neg]
      · omega
      · unfold bK; split <;> (try decide); split <;> (try decide); split <;> (try decide); split <;> (try decide); split <;> (try decide); split <;> decide
    · rw [dU.lW, dT.lW, dT.lW, if_pos rfl, q1]
      by_cases h : id = j
      · rw [if_pos h, h]
      · simp only [if_neg h]
    · rw [dU.lN, dT.lN, dT.lN, if_pos rfl, q2]
      by_cases h : id = j
      · rw [if_pos h, h]
      · simp only [if_neg h]
  have nW := dT.nW
  have nN := dT.nN
  rcases (show k = 1 ∨ k = 2 ∨ k = 3 ∨ k = 4 ∨ k = 5 ∨ k = 6 ∨ k = 7 from by omega) with rfl | rfl | rfl | rfl | rfl | rfl | rfl
  · cases h : St.look fw ws id with
    | some z => rw [h] at eT; exact absurd eT (by show ¬ (0 : Int) = 121; decide)
    | none =>
      rw [h] at eU key
      exact ⟨eU, .inr (key eU rfl rfl)⟩
  · cases h : St.look fw ws id with
    | none => rw [h] at eT; exact absurd eT (by show ¬ (0 : Int) = 122; decide)
    | some z =>
      rw [h] at eU key
      exact ⟨eU, .inr (key eU rfl rfl)⟩
  · cases h : St.look fw ws id with
    | none => rw [h] at eT; exact absurd eT (by show ¬ (0 : Int) = 122; decide)
    | some z =>
      rw [h] at eU key
      have u0 := eU.trans (show errS 1 false _ T.2.1.length T.2.2.1.length = 0 by
        unfold errS
        rw [if_pos rfl, if_neg Bool.false_ne_true, if_neg (by have : dW 3 = -1 := rfl; omega)])
      exact ⟨u0, .inr (key u0 rfl rfl)⟩
  · cases h : St.look fn ns id with
    | some z => rw [h] at eT; exact absurd eT (by show ¬ (0 : Int) = 121; decide)
    | none =>
      rw [h] at eU key
      exact ⟨eU, .inr (key eU rfl rfl)⟩
  · cases h : St.look fn ns id with
    | none => rw [h] at eT; exact absurd eT (by show ¬ (0 : Int) = 122; decide)
    | some z =>
      rw [h] at eU key
      have u0 := eU.trans (show errS 4 _ false T.2.1.length T.2.2.1.length = 0 by
        unfold errS
        rw [if_neg (by decide), if_pos rfl, if_neg Bool.false_ne_true, if_neg (by have : dN 5 = -1 := rfl; omega)])
      exact ⟨u0, .inr (key u0 rfl rfl)⟩
  · cases h : St.look fn ns id with
    | none => rw [h] at eT; exact absurd eT (by show ¬ (0 : Int) = 122; decide)
    | some z =>
      rw [h] at eU key
      refine ⟨eU, ?_⟩
      cases hz : z.f4 with
      | true => exact .inl ⟨.inl rfl, by show decide (z.f4 = true) = true; rw [hz]; rfl⟩
      | false => exact .inr (key eU rfl (by show some { z with f4 := false } = some z; rw [← hz]))
  · cases h : St.look fn ns id with
    | none => rw [h] at eT; exact absurd eT (by show ¬ (0 : Int) = 122; decide)
    | some z =>
      rw [h] at eU key
      refine ⟨eU, ?_⟩
      cases hz : z.f4 with
      | false => exact .inl ⟨.inr rfl, by show decide (z.f4 = decide ((7 : Int) = 6)) = true; rw [hz]; rfl⟩
      | true => exact .inr (key eU rfl (by show some { z with f4 := true } = some z; rw [← hz]))
theorem err_ne (k : Int) (a b : Bool) (n m : Nat) : errS k a b n m ≠ 120 := by
  unfold errS
  repeat' split
  all_goals decide
theorem bX_small {k : Int} {ws : List W} {id : ByteArray} (h : ∀ x ∈ ws, x.f5.size < 4294967281) : (bX k (St.look fw ws id)).f5.size < 4294967281 := by
  unfold bX
  split
  · cases h1 : St.look fw ws id with
    | none => show ByteArray.size ⟨#[]⟩ < _; decide
    | some z => exact h z (look_mem fw h1).1
  · show ByteArray.size ⟨#[]⟩ < _; decide
theorem bY_small {k : Int} {ns : List N} {id : ByteArray} (h : ∀ x ∈ ns, x.f3.size < 4294967281) : (bY k (St.look fn ns id)).f3.size < 4294967281 := by
  unfold bY
  split
  · cases h1 : St.look fn ns id with
    | none => show ByteArray.size ⟨#[]⟩ < _; decide
    | some z => exact h z (look_mem fn h1).1
  · show ByteArray.size ⟨#[]⟩ < _; decide
/-- where the name stands that was found -/
theorem found {α : Type} {f : α → ByteArray} (z : α) {l : List α} {id : ByteArray} (hs : Sorted f l) (h : (St.look f l id).isSome = true) : cnt f l id < l.length ∧ f (l.getD (cnt f l id) z) = id ∧ St.look f l id = some (l.getD (cnt f l id) z) := by
  have hh : hasG f z l id = true := by rw [has_look hs]; exact h
  obtain ⟨A, x, C, _, e, h1, h2, _, _⟩ := has_yes f z hs hh
  unfold hasG at hh
  simp only [Bool.and_eq_true, decide_eq_true_eq] at hh
  exact ⟨hh.1, hh.2, by rw [h2]; exact h1⟩
end Go.Proofs.YtldlkbjbfgieeaaGreatDoor.Lu
