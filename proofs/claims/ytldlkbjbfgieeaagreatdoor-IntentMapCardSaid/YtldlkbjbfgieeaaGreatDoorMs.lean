/- IntentMap: what one round does to the tables, and that it is what Apply does to the lists. -/
import Derived.Test.YtldlkbjbfgieeaaGreatDoorSu
import Derived.Test.YtldlkbjbfgieeaaGreatDoorMp
namespace Go.Proofs.YtldlkbjbfgieeaaGreatDoor.Ms
set_option linter.unusedVariables false
set_option linter.unusedSimpArgs false
open Go.RowKit Go.Proofs.YtldlkbjbfgieeaaGreatDoorW.PrintWords Go.Proofs.YtldlkbjbfgieeaaGreatDoorW.PrintLast Go.Proofs.YtldlkbjbfgieeaaGreatDoor.Mo Go.Proofs.YtldlkbjbfgieeaaGreatDoor.Q Go.Proofs.YtldlkbjbfgieeaaGreatDoor.Rw Go.Proofs.YtldlkbjbfgieeaaGreatDoor.Cb Go.Proofs.YtldlkbjbfgieeaaGreatDoor.Ch Go.Proofs.YtldlkbjbfgieeaaGreatDoor.Ap Go.Proofs.YtldlkbjbfgieeaaGreatDoor.St Go.Proofs.YtldlkbjbfgieeaaGreatDoor.Su Go.Proofs.YtldlkbjbfgieeaaGreatDoor.Of Go.Proofs.YtldlkbjbfgieeaaGreatDoor.Mp
open Go.Proofs.YtldlkbjbfgieeaaGreatDoor.Ri (rightS rightO)
abbrev zW : W := z32
abbrev zN : N := z34
def stepM (k : Int) (j : Nat) (x : W) (y : N) (want : Int) (mw : List W) (mn : List N) (many count : Nat) : Int × List W × List N × Nat × Nat :=
  if k = 1 then (if (mw.getD j zW).f0 = ByteArray.empty then (if 8 ≤ many then (123, mw, mn, many, count) else (0, mw.set j x, mn, many + 1, count)) else (121, mw, mn, many, count))
  else if k = 4 then (if (mn.getD j zN).f0 = ByteArray.empty then (if 8 ≤ count then (123, mw, mn, many, count) else (0, mw, mn.set j y, many, count + 1)) else (121, mw, mn, many, count))
  else if k = 8 then (0, mw, mn, many, count)
  else if k = 2 then (if (mw.getD j zW).f0 = ByteArray.empty then (122, mw, mn, many, count) else (0, mw.set j { mw.getD j zW with f1 := want }, mn, many, count))
  else if k = 3 then (if (mw.getD j zW).f0 = ByteArray.empty then (122, mw, mn, many, count) else (0, mw.set j zW, mn, many - 1, count))
  else if k = 5 then (if (mn.getD j zN).f0 = ByteArray.empty then (122, mw, mn, many, count) else (0, mw, mn.set j zN, many, count - 1))
  else (if (mn.getD j zN).f0 = ByteArray.empty then (122, mw, mn, many, count) else (0, mw, mn.set j { mn.getD j zN with f4 := decide (k = 6) }, many, count))
theorem cnt_lt {α : Type} {f : α → ByteArray} {z : α} {l m : List α} (hs : Sorted f l) (h : J f z l m) {j : Nat} (hj : j < 9) (hn : f (m.getD j z) ≠ ByteArray.empty) : cnt f l (nine j) < l.length := by
  have hh : hasG f z l (nine j) = true := by rw [h.has hs hj, decide_eq_false hn]; rfl
  unfold hasG at hh
  simp only [Bool.and_eq_true, decide_eq_true_eq] at hh
  exact hh.1
def Law (e : Int) (ws : List W) (ns : List N) (mw : List W) (mn : List N) (C : Int × List W × List N × Int) (T : Int × List W × List N × Nat × Nat) : Prop :=
  T.1 = C.2.2.2 ∧ (C.2.2.2 = 0 → J fw zW C.2.1 T.2.1 ∧ J fn zN C.2.2.1 T.2.2.1 ∧ T.2.2.2.1 = C.2.1.length ∧ T.2.2.2.2 = C.2.2.1.length ∧ C.1 ≤ e + 1) ∧ (C.2.2.2 ≠ 0 → T.2 = (mw, mn, ws.length, ns.length))
theorem bad_law {e : Int} {ws : List W} {ns : List N} {mw : List W} {mn : List N} {r : Int} (hr : r ≠ 0) (a : Int) (b : List W) (c : List N) : Law e ws ns mw mn (a, b, c, r) (r, mw, mn, ws.length, ns.length) := ⟨rfl, fun h => absurd h hr, fun _ => rfl⟩
theorem ch_law {e : Int} {ws : List W} {ns : List N} {k : Int} {x : W} {y : N} {j : Nat} {want : Int} {mw : List W} {mn : List N} (hsW : Sorted fw ws) (hsN : Sorted fn ns) (hj : j < 9) (hk1 : k = 1 → x.f0 = nine j) (hk4 : k = 4 → y.f0 = nine j) (he : e < 1099511627776) (hW : J fw zW ws mw) (hN : J fn zN ns mn) :
    Law e ws ns mw mn (chS e ws ns k x y (nine j) want) (stepM k j x y want mw mn ws.length ns.length) := by
  have hasw := hW.has hsW hj
  have hasn := hN.has hsN hj
  have lenSet : ∀ {α : Type} (l : List α) (p : Nat) (v : α), (l.set p v).length = l.length := fun l p v => List.length_set
  have lenDel : ∀ {α : Type} (l : List α) (p : Nat), p < l.length → (l.take p ++ l.drop (p + 1)).length = l.length - 1 := fun l p h => by rw [List.length_append, List.length_take, List.length_drop]; omega
  have lenPut : ∀ {α : Type} (l : List α) (p : Nat) (v : α), p ≤ l.length → (l.take p ++ v :: l.drop p).length = l.length + 1 := fun l p v h => by rw [List.length_append, List.length_cons, List.length_take, List.length_drop]; omega
  unfold chS stepM
  by_cases k1 : k = 1
  · have hx := hk1 k1
    rw [if_pos k1, if_pos k1]
    unfold PuW.putS
    rw [hx, hasW, posW, hasw]
    by_cases h0 : (mw.getD j zW).f0 = ByteArray.empty
    · rw [if_pos h0, show (!decide (fw (mw.getD j zW) = ByteArray.empty)) = false from by rw [show fw (mw.getD j zW) = ByteArray.empty from h0]; rfl, if_neg (by decide)]
      by_cases h8 : 8 ≤ ws.length
      · rw [if_pos h8, if_pos h8]; exact bad_law (by decide) _ _ _
      · rw [if_neg h8, if_neg h8]
        refine ⟨rfl, fun _ => ⟨hW.put hsW hj hx h0, hN, (lenPut ws _ x List.countP_le_length).symm, rfl, ?_⟩, fun h => absurd rfl h⟩
        show e ≤ e + 1
        omega
    · rw [if_neg h0, show (!decide (fw (mw.getD j zW) = ByteArray.empty)) = true from by rw [decide_eq_false (show ¬ fw (mw.getD j zW) = ByteArray.empty from h0)]; rfl, if_pos rfl]
      exact bad_law (by decide) _ _ _
  rw [if_neg k1, if_neg k1]
  by_cases k4 : k = 4
  · have hx := hk4 k4
    rw [if_pos k4, if_pos k4]
    unfold PuN.putS
    rw [hx, hasN, posN, hasn]
    by_cases h0 : (mn.getD j zN).f0 = ByteArray.empty
    · rw [if_pos h0, show (!decide (fn (mn.getD j zN) = ByteArray.empty)) = false from by rw [show fn (mn.getD j zN) = ByteArray.empty from h0]; rfl, if_neg (by decide)]
      by_cases h8 : 8 ≤ ns.length
      · rw [if_pos h8, if_pos h8]; exact bad_law (by decide) _ _ _
      · rw [if_neg h8, if_neg h8]
        refine ⟨rfl, fun _ => ⟨hW, hN.put hsN hj hx h0, rfl, (lenPut ns _ y List.countP_le_length).symm, ?_⟩, fun h => absurd rfl h⟩
        show e ≤ e + 1
        omega
    · rw [if_neg h0, show (!decide (fn (mn.getD j zN) = ByteArray.empty)) = true from by rw [decide_eq_false (show ¬ fn (mn.getD j zN) = ByteArray.empty from h0)]; rfl, if_pos rfl]
      exact bad_law (by decide) _ _ _
  rw [if_neg k4, if_neg k4]
  by_cases k8 : k = 8
  · rw [if_pos k8, if_pos k8, if_neg (by omega)]
    exact ⟨rfl, fun _ => ⟨hW, hN, rfl, rfl, Int.le_refl _⟩, fun h => absurd rfl h⟩
  rw [if_neg k8, if_neg k8]
  have yesW : (mw.getD j zW).f0 ≠ ByteArray.empty → hasG fw zW ws (nine j) = true := fun h0 => by rw [hasw, decide_eq_false (show ¬ fw (mw.getD j zW) = ByteArray.empty from h0)]; rfl
  have noW : (mw.getD j zW).f0 = ByteArray.empty → hasG fw zW ws (nine j) = false := fun h0 => by rw [hasw, show fw (mw.getD j zW) = ByteArray.empty from h0]; rfl
  have yesN : (mn.getD j zN).f0 ≠ ByteArray.empty → hasG fn zN ns (nine j) = true := fun h0 => by rw [hasn, decide_eq_false (show ¬ fn (mn.getD j zN) = ByteArray.empty from h0)]; rfl
  have noN : (mn.getD j zN).f0 = ByteArray.empty → hasG fn zN ns (nine j) = false := fun h0 => by rw [hasn, show fn (mn.getD j zN) = ByteArray.empty from h0]; rfl
  by_cases k2 : k = 2
  · rw [if_pos k2, if_pos k2, hasW, posW]
    by_cases h0 : (mw.getD j zW).f0 = ByteArray.empty
    · rw [if_pos h0, noW h0, if_neg (by decide)]; exact bad_law (by decide) _ _ _
    · rw [if_neg h0, yesW h0, if_pos rfl, hW.getD hsW hj h0]
      refine ⟨rfl, fun _ => ⟨hW.set hsW hj (x := { mw.getD j zW with f1 := want }) (hW.name hj h0) h0, hN, (lenSet ws _ _).symm, rfl, ?_⟩, fun h => absurd rfl h⟩
      show e ≤ e + 1
      omega
  rw [if_neg k2, if_neg k2]
  by_cases k3 : k = 3
  · rw [if_pos k3, if_pos k3, hasW, posW]
    by_cases h0 : (mw.getD j zW).f0 = ByteArray.empty
    · rw [if_pos h0, noW h0, if_neg (by decide)]; exact bad_law (by decide) _ _ _
    · rw [if_neg h0, yesW h0, if_pos rfl]
      refine ⟨rfl, fun _ => ⟨hW.del hsW hj (x := zW) rfl h0, hN, (lenDel ws _ (cnt_lt hsW hW hj h0)).symm, rfl, ?_⟩, fun h => absurd rfl h⟩
      show e ≤ e + 1
      omega
  rw [if_neg k3, if_neg k3]
  by_cases k5 : k = 5
  · rw [if_pos k5, if_pos k5, hasN, posN]
    by_cases h0 : (mn.getD j zN).f0 = ByteArray.empty
    · rw [if_pos h0, noN h0, if_neg (by decide)]; exact bad_law (by decide) _ _ _
    · rw [if_neg h0, yesN h0, if_pos rfl]
      refine ⟨rfl, fun _ => ⟨hW, hN.del hsN hj (x := zN) rfl h0, rfl, (lenDel ns _ (cnt_lt hsN hN hj h0)).symm, ?_⟩, fun h => absurd rfl h⟩
      show e ≤ e + 1
      omega
  rw [if_neg k5, if_neg k5, hasN, posN]
  by_cases h0 : (mn.getD j zN).f0 = ByteArray.empty
  · rw [if_pos h0, noN h0, if_neg (by decide)]; exact bad_law (by decide) _ _ _
  · rw [if_neg h0, yesN h0, if_pos rfl, hN.getD hsN hj h0]
    refine ⟨rfl, fun _ => ⟨hW, hN.set hsN hj (x := { mn.getD j zN with f4 := decide (k = 6) }) (hN.name hj h0) h0, rfl, (lenSet ns _ _).symm, ?_⟩, fun h => absurd rfl h⟩
    show e ≤ e + 1
    omega
theorem step_law {e : Int} {ws : List W} {ns : List N} {k : Int} {x : W} {y : N} {j : Nat} {want : Int} {mw : List W} {mn : List N} (hs : rightS e ws ns = true) (hj : j < 9) (ho : rightO k x y (nine j) want = true) (hk1 : k = 1 → x.f0 = nine j) (hk4 : k = 4 → y.f0 = nine j) (he : e < 1099511627776) (hW : J fw zW ws mw) (hN : J fn zN ns mn) :
    Law e ws ns mw mn (applyS e ws ns k x y (nine j) want) (stepM k j x y want mw mn ws.length ns.length) := by
  obtain ⟨_, _, _, hRW, hRN⟩ := rightS_iff.1 hs
  have h := ch_law (x := x) (y := y) (want := want) hRW.1 hRN.1 hj hk1 hk4 he hW hN
  unfold applyS
  rw [if_pos ⟨hs, ho⟩]
  by_cases h0 : (chS e ws ns k x y (nine j) want).2.2.2 = 0
  · rw [if_pos h0]; exact h
  · rw [if_neg h0]
    exact ⟨h.1, fun q => absurd q h0, fun _ => h.2.2 h0⟩
end Go.Proofs.YtldlkbjbfgieeaaGreatDoor.Ms
