/- What is done a second time. -/
import Derived.Test.YtldlkbjbfgieeaaGreatDoorLk
import Derived.Test.YtldlkbjbfgieeaaGreatDoorSa
import Derived.Test.YtldlkbjbfgieeaaGreatDoorSy
import Derived.Test.YtldlkbjbfgieeaaGreatDoorAw
namespace Go.Proofs.YtldlkbjbfgieeaaGreatDoor.Lt
set_option linter.unusedVariables false
set_option linter.unusedSimpArgs false
open Go.RowKit Go.Proofs.YtldlkbjbfgieeaaGreatDoorW.PrintWords Go.Proofs.YtldlkbjbfgieeaaGreatDoorW.PrintLast Go.Proofs.YtldlkbjbfgieeaaGreatDoor.Mo Go.Proofs.YtldlkbjbfgieeaaGreatDoor.Q Go.Proofs.YtldlkbjbfgieeaaGreatDoor.Rw Go.Proofs.YtldlkbjbfgieeaaGreatDoor.Cb Go.Proofs.YtldlkbjbfgieeaaGreatDoor.Ch Go.Proofs.YtldlkbjbfgieeaaGreatDoor.Ap Go.Proofs.YtldlkbjbfgieeaaGreatDoor.St Go.Proofs.YtldlkbjbfgieeaaGreatDoor.Su Go.Proofs.YtldlkbjbfgieeaaGreatDoor.Lk
open Go.Proofs.YtldlkbjbfgieeaaGreatDoor.Ri (rightS rightO rightW rightN inB)
open Go.Proofs.YtldlkbjbfgieeaaGreatDoor.Nm (nm)
theorem rightO_want {k : Int} {x : W} {y : N} {id : ByteArray} {want w2 : Int} (h : rightO k x y id want = true) (hw : 0 ≤ w2 ∧ w2 ≤ 16) : rightO k x y id w2 = true := by
  unfold rightO at h ⊢
  by_cases h1 : k = 1
  · rw [if_pos h1] at h ⊢; exact h
  rw [if_neg h1] at h ⊢
  by_cases h4 : k = 4
  · rw [if_pos h4] at h ⊢; exact h
  rw [if_neg h4] at h ⊢
  by_cases h2 : k = 2
  · rw [if_pos h2] at h ⊢
    simp only [Bool.and_eq_true] at h ⊢
    exact ⟨h.1, Of.inB_of hw.1 hw.2⟩
  rw [if_neg h2] at h ⊢; exact h
/-- what is done a second time -/
theorem twice_law {e : Int} {ws : List W} {ns : List N} {k : Int} {x : W} {y : N} {id : ByteArray} {want w2 : Int} (hs : rightS e ws ns = true) (he : e < 1099511627775) (ho : rightO k x y id want = true) (hw2 : 0 ≤ w2 ∧ w2 ≤ 16) (h1 : k = 1 → x.f0 = id) (h4 : k = 4 → y.f0 = id) {T : Int × List W × List N × Int} (hT : T = applyS e ws ns k x y id want) (h0 : T.2.2.2 = 0) :
    ((k = 1 ∨ k = 4) → (applyS T.1 T.2.1 T.2.2.1 k x y id w2).2.2.2 = 121) ∧ ((k = 3 ∨ k = 5) → (applyS T.1 T.2.1 T.2.2.1 k x y id w2).2.2.2 = 122) ∧ (k = 2 → (applyS T.1 T.2.1 T.2.2.1 k x y id w2).2.2.2 = 0 ∧ applyS e ws ns k x y id w2 = applyS T.1 T.2.1 T.2.2.1 k x y id w2) ∧ (k = 8 → (applyS T.1 T.2.1 T.2.2.1 k x y id w2).2.2.2 = 0 ∧ (applyS T.1 T.2.1 T.2.2.1 k x y id w2).1 = e + 2) ∧ ((k = 6 ∨ k = 7) → applyS T.1 T.2.1 T.2.2.1 k x y id w2 = T) := by
  have gT := ap_look hs ho h1 h4 (by omega : e < 1099511627776)
  have rT := (apply_stays (e := e) (ws := ws) (ns := ns) (k := k) (x := x) (y := y) (id := id) (want := want)).1
  rw [← hT] at gT rT
  obtain ⟨eT, dT⟩ := gT
  replace dT := dT h0
  replace rT := rT h0
  have ho2 := rightO_want ho hw2
  have lT : T.1 < 1099511627776 := by have := dT.ep; split at this <;> omega
  obtain ⟨eU, dU⟩ := ap_look rT ho2 h1 h4 lT
  have gV := ap_look hs ho2 h1 h4 (by omega : e < 1099511627776)
  rw [dT.lW, dT.lN, if_pos rfl, if_pos rfl] at eU
  rw [h0] at eT
  refine ⟨?_, ?_, ?_, ?_, ?_⟩
  · rintro (rfl | rfl)
    · exact eU
    · exact eU
  · rintro (rfl | rfl)
    · exact eU
    · exact eU
  · rintro rfl
    have hl : (St.look fw ws id).isSome = true := by
      cases h : (St.look fw ws id).isSome with
      | true => rfl
      | false => rw [h] at eT; exact absurd eT (by show ¬ (0 : Int) = 122; decide)
    have u0 : (applyS T.1 T.2.1 T.2.2.1 2 x y id w2).2.2.2 = 0 := by
      rw [eU]
      obtain ⟨z, hz⟩ := Option.isSome_iff_exists.1 hl
      rw [hz]; rfl
    have v0 : (applyS e ws ns 2 x y id w2).2.2.2 = 0 := by rw [gV.1, hl]; rfl
    have dU := dU u0
    have dV := gV.2 v0
    refine ⟨u0, st_ext dV.sW dU.sW dV.sN dU.sN ?_ (v0.trans u0.symm) (fun j => ?_) (fun j => ?_)⟩
    · rw [dU.ep, dV.ep, dT.ep]; rw [if_neg (by decide)]; omega
    · rw [dU.lW, dV.lW, dT.lW, dT.lW, if_pos rfl]
      by_cases h : id = j
      · rw [if_pos h, if_pos h]
        unfold upW
        rw [if_neg (by decide), if_pos rfl, if_neg (by decide), if_pos rfl, if_neg (by decide), if_pos rfl]
        cases St.look fw ws id with
        | none => rfl
        | some z => rfl
      · simp only [if_neg h]
    · rw [dU.lN, dV.lN, dT.lN, dT.lN, if_pos rfl]
      by_cases h : id = j
      · rw [if_pos h, if_pos h]; rfl
      · simp only [if_neg h]
  · rintro rfl
    have u0 : (applyS T.1 T.2.1 T.2.2.1 8 x y id w2).2.2.2 = 0 := eU
    have dU := dU u0
    exact ⟨u0, by rw [dU.ep, dT.ep, if_pos rfl]; omega⟩
  · intro hk
    have hl : (St.look fn ns id).isSome = true := by
      cases h : (St.look fn ns id).isSome with
      | true => rfl
      | false => rw [h] at eT; rcases hk with rfl | rfl <;> exact absurd eT (by show ¬ (0 : Int) = 122; decide)
    have u0 : (applyS T.1 T.2.1 T.2.2.1 k x y id w2).2.2.2 = 0 := by
      rw [eU]
      obtain ⟨z, hz⟩ := Option.isSome_iff_exists.1 hl
      rw [hz]
      rcases hk with rfl | rfl <;> rfl
    have dU := dU u0
    refine st_ext dU.sW dT.sW dU.sN dT.sN ?_ (u0.trans h0.symm) (fun j => ?_) (fun j => ?_)
    · rw [dU.ep]; rw [if_neg (by omega)]; omega
    · rw [dU.lW, dT.lW, dT.lW, if_pos rfl]
      by_cases h : id = j
      · rw [if_pos h, if_pos h]; rcases hk with rfl | rfl <;> rfl
      · simp only [if_neg h]
    · rw [dU.lN, dT.lN, dT.lN, if_pos rfl]
      by_cases h : id = j
      · rw [if_pos h, if_pos h]
        obtain ⟨z, hz⟩ := Option.isSome_iff_exists.1 hl
        rw [hz]
        rcases hk with rfl | rfl <;> rfl
      · simp only [if_neg h]
end Go.Proofs.YtldlkbjbfgieeaaGreatDoor.Lt
namespace Go.Proofs.YtldlkbjbfgieeaaGreatDoor.Tc
set_option linter.unusedVariables false
set_option linter.unusedSimpArgs false
open Go.RowKit Go.Proofs.YtldlkbjbfgieeaaGreatDoorW.PrintWords Go.Proofs.YtldlkbjbfgieeaaGreatDoorW.PrintLast Go.Proofs.YtldlkbjbfgieeaaGreatDoor.Mo Go.Proofs.YtldlkbjbfgieeaaGreatDoor.Q Go.Proofs.YtldlkbjbfgieeaaGreatDoor.Rw Go.Proofs.YtldlkbjbfgieeaaGreatDoor.Cb Go.Proofs.YtldlkbjbfgieeaaGreatDoor.Ch Go.Proofs.YtldlkbjbfgieeaaGreatDoor.Ap Go.Proofs.YtldlkbjbfgieeaaGreatDoor.St Go.Proofs.YtldlkbjbfgieeaaGreatDoor.Su Go.Proofs.YtldlkbjbfgieeaaGreatDoor.Ft Go.Proofs.YtldlkbjbfgieeaaGreatDoor.Op Go.Proofs.YtldlkbjbfgieeaaGreatDoor.Of Go.Proofs.YtldlkbjbfgieeaaGreatDoor.Lk
open Go.Proofs.YtldlkbjbfgieeaaGreatDoor.La (In64 raw)
open Go.Proofs.YtldlkbjbfgieeaaGreatDoor.Ri (rightS rightO stV Small)
open Go.Proofs.YtldlkbjbfgieeaaGreatDoor.Is (apply_small opX_small opY_small rowW_C rowN_C)
open Go.Proofs.YtldlkbjbfgieeaaGreatDoor.Lt
set_option maxHeartbeats 16000000 in
set_option maxRecDepth 100000 in
theorem twice_any (haw : ∀ W, Calls Tryz.prog 11 #[] W fun e w' => e = .returned (.bool true) ∧ Below W.heap.size W w') (A0 : Option Addr) (c0 : Nat) (l : List S40) (w : World) (hl : Kd.C k40 w A0 l.length l) (hc : l.length ≤ c0) (hV : ∀ x ∈ l, In64 x.f0 ∧ In64 x.f1 ∧ In64 x.f2 ∧ ∀ z ∈ x.f3, In64 z) (X : S40) (Ar : Option Addr) (cr : Nat) (hcr : X.f3.length ≤ cr) (hCr : Kd.C (Kd.int .i64) w Ar X.f3.length X.f3) (hX : In64 X.f0 ∧ In64 X.f1 ∧ In64 X.f2 ∧ ∀ z ∈ X.f3, In64 z) (want : Int) (hw : In64 want) :
    Calls Tryz.prog 7 #[.slice A0 l.length c0, .agg #[.int .i64 X.f0, .int .i64 X.f1, .int .i64 X.f2, .slice Ar X.f3.length cr], .int .i64 want] w fun e w' => e = .returned (.bool true) ∧ Below w.heap.size w w' := by
  have hB := below_alloc (Below.refl w.heap.size w) (rawO X.f0 X.f1 X.f2 Ar X.f3.length cr)
  have h4 := blk_new w (rawO X.f0 X.f1 X.f2 Ar X.f3.length cr)
  replace hl := Kd.C_below hl hB
  obtain ⟨b4, hg⟩ : ∃ g, g = w.heap.size := ⟨_, rfl⟩
  rw [← hg] at h4
  replace hg := Lib.hid hg
  obtain ⟨T, L, kL, e1, e2, e3, e4, e5, ho⟩ := op_right hX.1 hX.2.1 hX.2.2.1 hX.2.2.2
  have hop := Lib.hid (fun W (hB : Below w.heap.size w W) => op_any X.f0 X.f1 X.f2 Ar cr X.f3 _ T L kL W hcr (Kd.C_below hCr hB) e1 e2 e3)
  have hsx : (opX X.f0 (nine (raw X.f1 % 9)) X.f3 T).f5.size < 4294967281 := opX_small e4
  have hsy : (opY X.f0 (nine (raw X.f1 % 9)) X.f3 L).f3.size < 4294967281 := opY_small e5
  have hk1 : kOf X.f0 = 1 → (opX X.f0 (nine (raw X.f1 % 9)) X.f3 T).f0 = nine (raw X.f1 % 9) := Sa.opX_id
  have hk4 : kOf X.f0 = 4 → (opY X.f0 (nine (raw X.f1 % 9)) X.f3 L).f0 = nine (raw X.f1 % 9) := Sa.opY_id
  have hnm := (nine_of (i := raw X.f1 % 9) (Nat.mod_lt _ (by decide))).1
  generalize kOf X.f0 = k at *
  generalize opX X.f0 (nine (raw X.f1 % 9)) X.f3 T = x at *
  generalize opY X.f0 (nine (raw X.f1 % 9)) X.f3 L = y at *
  generalize nine (raw X.f1 % 9) = id at *
  generalize pk X.f2 17 = wn at *
  clear e1 e2 e3 e4 e5
  go_enter Tryz.func7, Tryz.ntmps7
  go_wp2_with fail
  rw [← hg.out]
  revert hB; revert h4; revert hl
  generalize w.alloc (rawO X.f0 X.f1 X.f2 Ar X.f3.length cr) = wa
  intro hl h4 hB
  refine (haw _).mono ?_
  rintro e' w1 ⟨rfl, hb1⟩
  replace h4 := blk_below h4 hb1
  replace hB := below_then hB hB.size hb1
  replace hl := Kd.C_below hl hb1
  clear hb1
  go_wp2_with fail
  refine (Sa.state_any A0 c0 l w1 hl hc hV).mono ?_
  rintro e' w2 ⟨ep, ws, ns, A, B, c, d, rfl, hA, hN, hlc, hld, hrs, hsm, hep, hb2⟩
  replace h4 := blk_below h4 hb2
  replace hB := below_then hB hB.size hb2
  replace hl := Kd.C_below hl hb2
  clear hb2
  clear hl
  replace hA := Sa.rowW_C hA
  replace hN := Sa.rowN_C hN
  have h8 := blk_new w2 (.cells #[.int .i64 ep, .slice A ws.length c, .slice B ns.length d] 27)
  have qh8 := below_alloc (Below.refl w2.heap.size w2) (.cells #[.int .i64 ep, .slice A ws.length c, .slice B ns.length d] 27)
  replace h4 := blk_below h4 qh8
  replace hB := below_then hB hB.size qh8
  replace hA := Kd.C_below hA qh8
  replace hN := Kd.C_below hN qh8
  clear qh8
  have r0 := (blk_cell h4 0).trans rfl
  have r1 := (blk_cell h4 1).trans rfl
  have r2 := (blk_cell h4 2).trans rfl
  have r3 := (blk_cell h4 3).trans rfl
  go_wp2_with fail
  generalize (w2.alloc (.cells #[.int .i64 ep, .slice A ws.length c, .slice B ns.length d] 27)) = w3 at *
  generalize w2.heap.size = b8 at *
  refine (hop.out w3 hB).mono ?_
  rintro e' w4 ⟨rfl, hb4⟩
  clear r0 r1 r2 r3
  replace h4 := blk_below h4 hb4
  replace hB := below_then hB hB.size hb4
  replace hA := Kd.C_below hA hb4
  replace hN := Kd.C_below hN hb4
  replace h8 := blk_below h8 hb4
  clear hb4
  have h9 := blk_new w4 (.cells #[.int .i64 k, .string x.f0, .int .i64 x.f1, .int .i64 x.f2, .int .i64 x.f3, .int .i64 x.f4, .string x.f5, .string y.f0, .int .i64 y.f1, .int .i64 y.f2, .string y.f3, .bool y.f4, .string id, .int .i64 wn] 36)
  have qh9 := below_alloc (Below.refl w4.heap.size w4) (.cells #[.int .i64 k, .string x.f0, .int .i64 x.f1, .int .i64 x.f2, .int .i64 x.f3, .int .i64 x.f4, .string x.f5, .string y.f0, .int .i64 y.f1, .int .i64 y.f2, .string y.f3, .bool y.f4, .string id, .int .i64 wn] 36)
  replace h4 := blk_below h4 qh9
  replace hB := below_then hB hB.size qh9
  replace hA := Kd.C_below hA qh9
  replace hN := Kd.C_below hN qh9
  replace h8 := blk_below h8 qh9
  clear qh9
  have s0 := (blk_cell h8 0).trans rfl
  have s1 := (blk_cell h8 1).trans rfl
  have s2 := (blk_cell h8 2).trans rfl
  have o0 := (blk_cell h9 0).trans rfl
  have o1 := (blk_cell h9 1).trans rfl
  have o2 := (blk_cell h9 2).trans rfl
  have o3 := (blk_cell h9 3).trans rfl
  have o4 := (blk_cell h9 4).trans rfl
  have o5 := (blk_cell h9 5).trans rfl
  have o6 := (blk_cell h9 6).trans rfl
  have o7 := (blk_cell h9 7).trans rfl
  have o8 := (blk_cell h9 8).trans rfl
  have o9 := (blk_cell h9 9).trans rfl
  have o10 := (blk_cell h9 10).trans rfl
  have o11 := (blk_cell h9 11).trans rfl
  have o12 := (blk_cell h9 12).trans rfl
  have o13 := (blk_cell h9 13).trans rfl
  go_wp2_with fail
  generalize (w4.alloc (.cells #[.int .i64 k, .string x.f0, .int .i64 x.f1, .int .i64 x.f2, .int .i64 x.f3, .int .i64 x.f4, .string x.f5, .string y.f0, .int .i64 y.f1, .int .i64 y.f2, .string y.f3, .bool y.f4, .string id, .int .i64 wn] 36)) = w5 at *
  generalize w4.heap.size = b9 at *
  obtain ⟨T, hT⟩ : ∃ Z_, Z_ = applyS ep ws ns k x y id wn := ⟨_, rfl⟩
  have hap := apply_any ep A B c d ws ns k x y id wn w5 hA hlc hN hld hsm hsx hsy
  rw [← hT] at hap
  have hsmT := apply_small (e := ep) (k := k) (id := id) (want := wn) hsm hsx hsy
  rw [← hT] at hsmT
  replace hT := Lib.hid hT
  refine (hap).mono ?_
  rintro e' w6 ⟨AT, BT, rfl, hAT, hBT, hbT⟩
  clear s0 s1 s2 o0 o1 o2 o3 o4 o5 o6 o7 o8 o9 o10 o11 o12 o13
  replace h4 := blk_below h4 hbT
  replace hB := below_then hB hB.size hbT
  replace hA := Kd.C_below hA hbT
  replace hN := Kd.C_below hN hbT
  replace h8 := blk_below h8 hbT
  replace h9 := blk_below h9 hbT
  clear hbT
  clear hap
  replace hAT := rowW_C hAT
  replace hBT := rowN_C hBT
  have h10 := blk_new w6 (.cells #[.int .i64 T.1, .slice AT T.2.1.length T.2.1.length, .slice BT T.2.2.1.length T.2.2.1.length] 27)
  have qh10 := below_alloc (Below.refl w6.heap.size w6) (.cells #[.int .i64 T.1, .slice AT T.2.1.length T.2.1.length, .slice BT T.2.2.1.length T.2.2.1.length] 27)
  replace h4 := blk_below h4 qh10
  replace hB := below_then hB hB.size qh10
  replace hA := Kd.C_below hA qh10
  replace hN := Kd.C_below hN qh10
  replace h8 := blk_below h8 qh10
  replace h9 := blk_below h9 qh10
  replace hAT := Kd.C_below hAT qh10
  replace hBT := Kd.C_below hBT qh10
  clear qh10
  go_upto_if 29 with fail
  generalize (w6.alloc (.cells #[.int .i64 T.1, .slice AT T.2.1.length T.2.1.length, .slice BT T.2.2.1.length T.2.2.1.length] 27)) = w7 at *
  generalize w6.heap.size = b10 at *
  by_cases h0 : T.2.2.2 = 0
  · have b0 : (T.2.2.2 != 0) = false := by rw [h0]; rfl
    have hw2 : 0 ≤ pk want 17 ∧ pk want 17 ≤ 16 := by have h17 : pk want 17 = ((raw want % 17 : Nat) : Int) := La.pk_raw hw 17; rw [h17]; omega
    have hlaw := twice_law hrs (by omega) ho hw2 hk1 hk4 hT.out h0
    have hrT : rightS T.1 T.2.1 T.2.2.1 = true := by have := (apply_stays (e := ep) (ws := ws) (ns := ns) (k := k) (x := x) (y := y) (id := id) (want := wn)).1; rw [← hT.out] at this; exact this h0
    have hkr := op_range ho
    have hlT := Lib.hid (show T.2.1.length ≤ 8 ∧ T.2.2.1.length ≤ 8 from ⟨(rightS_iff.1 hrT).2.1, (rightS_iff.1 hrT).2.2.1⟩)
    replace h0 := Lib.hid h0
    replace hlaw := Lib.hid hlaw
    replace hep := Lib.hid hep
    replace hrs := Lib.hid hrs
    replace hrT := Lib.hid hrT
    replace hw2 := Lib.hid hw2
    have o0 := (blk_cell h9 0).trans rfl
    have o1 := (blk_cell h9 1).trans rfl
    have o2 := (blk_cell h9 2).trans rfl
    have o3 := (blk_cell h9 3).trans rfl
    have o4 := (blk_cell h9 4).trans rfl
    have o5 := (blk_cell h9 5).trans rfl
    have o6 := (blk_cell h9 6).trans rfl
    have o7 := (blk_cell h9 7).trans rfl
    have o8 := (blk_cell h9 8).trans rfl
    have o9 := (blk_cell h9 9).trans rfl
    have o10 := (blk_cell h9 10).trans rfl
    have o11 := (blk_cell h9 11).trans rfl
    have o12 := (blk_cell h9 12).trans rfl
    have o13 := (blk_cell h9 13).trans rfl
    have g12 := blk_new w7 (.cells #[.int .i64 k, .string x.f0, .int .i64 x.f1, .int .i64 x.f2, .int .i64 x.f3, .int .i64 x.f4, .string x.f5, .string y.f0, .int .i64 y.f1, .int .i64 y.f2, .string y.f3, .bool y.f4, .string id, .int .i64 wn] 36)
    have q12 := below_alloc (Below.refl w7.heap.size w7) (.cells #[.int .i64 k, .string x.f0, .int .i64 x.f1, .int .i64 x.f2, .int .i64 x.f3, .int .i64 x.f4, .string x.f5, .string y.f0, .int .i64 y.f1, .int .i64 y.f2, .string y.f3, .bool y.f4, .string id, .int .i64 wn] 36)
    have y13 := (blk_cell g12 13).trans rfl
    have z13 := blk_frozen g12 13
    go_wp2_with fail
    clear o0 o1 o2 o3 o4 o5 o6 o7 o8 o9 o10 o11 o12 o13 y13 z13
    have h12 := blk_put g12 13 (.int .i64 (pk want 17)) (cs' := #[.int .i64 k, .string x.f0, .int .i64 x.f1, .int .i64 x.f2, .int .i64 x.f3, .int .i64 x.f4, .string x.f5, .string y.f0, .int .i64 y.f1, .int .i64 y.f2, .string y.f3, .bool y.f4, .string id, .int .i64 (pk want 17)]) rfl
    have q13 := q12.setCell (p := ⟨w7.heap.size, 13, none⟩) (Nat.le_refl _) (.int .i64 (pk want 17))
    replace h4 := blk_below h4 q13
    replace hB := below_then hB hB.size q13
    replace hA := Kd.C_below hA q13
    replace hN := Kd.C_below hN q13
    replace h8 := blk_below h8 q13
    replace h9 := blk_below h9 q13
    replace hAT := Kd.C_below hAT q13
    replace hBT := Kd.C_below hBT q13
    replace h10 := blk_below h10 q13
    clear q12 q13
    have y13 := (blk_cell g12 13).trans rfl
    have z13 := blk_frozen g12 13
    clear g12
    generalize (w7.alloc (.cells #[.int .i64 k, .string x.f0, .int .i64 x.f1, .int .i64 x.f2, .int .i64 x.f3, .int .i64 x.f4, .string x.f5, .string y.f0, .int .i64 y.f1, .int .i64 y.f2, .string y.f3, .bool y.f4, .string id, .int .i64 wn] 36)) = w8 at *
    generalize w7.heap.size = b12 at *
    refine (pick12_any want 17 _ (by decide)).mono ?_
    rintro e' _ ⟨rfl, rfl⟩
    have t0 := (blk_cell h10 0).trans rfl
    have t1 := (blk_cell h10 1).trans rfl
    have t2 := (blk_cell h10 2).trans rfl
    have v0 := (blk_cell h12 0).trans rfl
    have v1 := (blk_cell h12 1).trans rfl
    have v2 := (blk_cell h12 2).trans rfl
    have v3 := (blk_cell h12 3).trans rfl
    have v4 := (blk_cell h12 4).trans rfl
    have v5 := (blk_cell h12 5).trans rfl
    have v6 := (blk_cell h12 6).trans rfl
    have v7 := (blk_cell h12 7).trans rfl
    have v8 := (blk_cell h12 8).trans rfl
    have v9 := (blk_cell h12 9).trans rfl
    have v10 := (blk_cell h12 10).trans rfl
    have v11 := (blk_cell h12 11).trans rfl
    have v12 := (blk_cell h12 12).trans rfl
    have v13 := (blk_cell h12 13).trans rfl
    go_wp2_with fail
    generalize w8.setCell ⟨b12, 13, none⟩ (.int .i64 (pk want 17)) = w9 at *
    clear y13 z13 t0 t1 t2 v0 v1 v2 v3 v4 v5 v6 v7 v8 v9 v10 v11 v12 v13
    obtain ⟨U, hU⟩ : ∃ Z_, Z_ = applyS T.1 T.2.1 T.2.2.1 k x y id (pk want 17) := ⟨_, rfl⟩
    have hap := apply_any T.1 AT BT T.2.1.length T.2.2.1.length T.2.1 T.2.2.1 k x y id (pk want 17) w9 hAT (Nat.le_refl _) hBT (Nat.le_refl _) hsmT hsx hsy
    rw [← hU] at hap
    have hsmU := apply_small (e := T.1) (k := k) (id := id) (want := (pk want 17)) hsmT hsx hsy
    rw [← hU] at hsmU
    replace hU := Lib.hid hU
    refine (hap).mono ?_
    rintro e' w10 ⟨AU, BU, rfl, hAU, hBU, hbU⟩
    replace h4 := blk_below h4 hbU
    replace hB := below_then hB hB.size hbU
    replace hA := Kd.C_below hA hbU
    replace hN := Kd.C_below hN hbU
    replace h8 := blk_below h8 hbU
    replace h9 := blk_below h9 hbU
    replace hAT := Kd.C_below hAT hbU
    replace hBT := Kd.C_below hBT hbU
    replace h10 := blk_below h10 hbU
    replace h12 := blk_below h12 hbU
    clear hbU
    clear hap
    replace hAU := rowW_C hAU
    replace hBU := rowN_C hBU
    have hlU := Lib.hid (apply_stays (e := T.1) (ws := T.2.1) (ns := T.2.2.1) (k := k) (x := x) (y := y) (id := id) (want := pk want 17)).1
    rw [← hU.out] at hlU hlaw
    have h13 := blk_new w10 (.cells #[.int .i64 U.1, .slice AU U.2.1.length U.2.1.length, .slice BU U.2.2.1.length U.2.2.1.length] 27)
    have qh13 := below_alloc (Below.refl w10.heap.size w10) (.cells #[.int .i64 U.1, .slice AU U.2.1.length U.2.1.length, .slice BU U.2.2.1.length U.2.2.1.length] 27)
    replace h4 := blk_below h4 qh13
    replace hB := below_then hB hB.size qh13
    replace hA := Kd.C_below hA qh13
    replace hN := Kd.C_below hN qh13
    replace h8 := blk_below h8 qh13
    replace h9 := blk_below h9 qh13
    replace hAT := Kd.C_below hAT qh13
    replace hBT := Kd.C_below hBT qh13
    replace h10 := blk_below h10 qh13
    replace h12 := blk_below h12 qh13
    replace hAU := Kd.C_below hAU qh13
    replace hBU := Kd.C_below hBU qh13
    clear qh13
    have o0 := (blk_cell h9 0).trans rfl
    go_upto_block 0 with fail
    clear o0
    clear b0
    generalize (w10.alloc (.cells #[.int .i64 U.1, .slice AU U.2.1.length U.2.1.length, .slice BU U.2.2.1.length U.2.2.1.length] 27)) = w11 at *
    generalize w10.heap.size = b13 at *
    rcases (show k = 1 ∨ k = 2 ∨ k = 3 ∨ k = 4 ∨ k = 5 ∨ k = 6 ∨ k = 7 ∨ k = 8 from by omega) with rfl | rfl | rfl | rfl | rfl | rfl | rfl | rfl
    · have hu : U.2.2.2 = 121 := hlaw.out.1 (by first | exact .inl rfl | exact .inr rfl)
      have c0 : decide (U.2.2.2 = 121) = true := decide_eq_true hu
      have c1 : (U.2.2.2 == 121) = true := by rw [hu]; rfl
      clear hu
      go_wp2_with fail
      go_ret
      exact ⟨rfl, hB⟩
    · obtain ⟨hu, hv⟩ := hlaw.out.2.2.1 rfl
      have hl8 := Lib.hid (show U.2.1.length ≤ 8 ∧ U.2.2.1.length ≤ 8 from ⟨(rightS_iff.1 (hlU.out hu)).2.1, (rightS_iff.1 (hlU.out hu)).2.2.1⟩)
      have c0 : decide (U.2.2.2 = 0) = true := decide_eq_true hu
      have c1 : (U.2.2.2 == 0) = true := by rw [hu]; rfl
      replace hv := Lib.hid hv
      have s0 := (blk_cell h8 0).trans rfl
      have s1 := (blk_cell h8 1).trans rfl
      have s2 := (blk_cell h8 2).trans rfl
      have v0 := (blk_cell h12 0).trans rfl
      have v1 := (blk_cell h12 1).trans rfl
      have v2 := (blk_cell h12 2).trans rfl
      have v3 := (blk_cell h12 3).trans rfl
      have v4 := (blk_cell h12 4).trans rfl
      have v5 := (blk_cell h12 5).trans rfl
      have v6 := (blk_cell h12 6).trans rfl
      have v7 := (blk_cell h12 7).trans rfl
      have v8 := (blk_cell h12 8).trans rfl
      have v9 := (blk_cell h12 9).trans rfl
      have v10 := (blk_cell h12 10).trans rfl
      have v11 := (blk_cell h12 11).trans rfl
      have v12 := (blk_cell h12 12).trans rfl
      have v13 := (blk_cell h12 13).trans rfl
      go_wp2_with fail
      have hap := apply_any ep A B c d ws ns 2 x y id (pk want 17) w11 hA hlc hN hld hsm hsx hsy
      rw [hv.out] at hap
      refine (hap).mono ?_
      rintro e' w12 ⟨AV, BV, rfl, hAV, hBV, hbV⟩
      clear s0 s1 s2 v0 v1 v2 v3 v4 v5 v6 v7 v8 v9 v10 v11 v12 v13
      replace h4 := blk_below h4 hbV
      replace hB := below_then hB hB.size hbV
      replace hA := Kd.C_below hA hbV
      replace hN := Kd.C_below hN hbV
      replace h8 := blk_below h8 hbV
      replace h9 := blk_below h9 hbV
      replace hAT := Kd.C_below hAT hbV
      replace hBT := Kd.C_below hBT hbV
      replace h10 := blk_below h10 hbV
      replace h12 := blk_below h12 hbV
      replace hAU := Kd.C_below hAU hbV
      replace hBU := Kd.C_below hBU hbV
      replace h13 := blk_below h13 hbV
      clear hbV
      clear hap
      replace hAV := rowW_C hAV
      replace hBV := rowN_C hBV
      have h15 := blk_new w12 (.cells #[.int .i64 U.1, .slice AV U.2.1.length U.2.1.length, .slice BV U.2.2.1.length U.2.2.1.length] 27)
      have qh15 := below_alloc (Below.refl w12.heap.size w12) (.cells #[.int .i64 U.1, .slice AV U.2.1.length U.2.1.length, .slice BV U.2.2.1.length U.2.2.1.length] 27)
      replace h4 := blk_below h4 qh15
      replace hB := below_then hB hB.size qh15
      replace hA := Kd.C_below hA qh15
      replace hN := Kd.C_below hN qh15
      replace h8 := blk_below h8 qh15
      replace h9 := blk_below h9 qh15
      replace hAT := Kd.C_below hAT qh15
      replace hBT := Kd.C_below hBT qh15
      replace h10 := blk_below h10 qh15
      replace h12 := blk_below h12 qh15
      replace hAU := Kd.C_below hAU qh15
      replace hBU := Kd.C_below hBU qh15
      replace h13 := blk_below h13 qh15
      replace hAV := Kd.C_below hAV qh15
      replace hBV := Kd.C_below hBV qh15
      clear qh15
      have p0 := (blk_cell h13 0).trans rfl
      have p1 := (blk_cell h13 1).trans rfl
      have p2 := (blk_cell h13 2).trans rfl
      have r0 := (blk_cell h15 0).trans rfl
      have r1 := (blk_cell h15 1).trans rfl
      have r2 := (blk_cell h15 2).trans rfl
      go_wp2_with fail
      generalize (w12.alloc (.cells #[.int .i64 U.1, .slice AV U.2.1.length U.2.1.length, .slice BV U.2.2.1.length U.2.2.1.length] 27)) = w13 at *
      generalize w12.heap.size = b15 at *
      have hcl := Sy.same_yes U.1 AU BU AV BV U.2.1.length U.2.2.1.length U.2.1.length U.2.2.1.length U.2.1 U.2.2.1 w13 hAU hBU hAV hBV (by have := hl8.out; omega) (by have := hl8.out; omega)
      refine (hcl).mono ?_
      rintro e' w14 ⟨rfl, hbS⟩
      clear p0 p1 p2 r0 r1 r2
      replace h4 := blk_below h4 hbS
      replace hB := below_then hB hB.size hbS
      replace hA := Kd.C_below hA hbS
      replace hN := Kd.C_below hN hbS
      replace h8 := blk_below h8 hbS
      replace h9 := blk_below h9 hbS
      replace hAT := Kd.C_below hAT hbS
      replace hBT := Kd.C_below hBT hbS
      replace h10 := blk_below h10 hbS
      replace h12 := blk_below h12 hbS
      replace hAU := Kd.C_below hAU hbS
      replace hBU := Kd.C_below hBU hbS
      replace h13 := blk_below h13 hbS
      replace hAV := Kd.C_below hAV hbS
      replace hBV := Kd.C_below hBV hbS
      replace h15 := blk_below h15 hbS
      clear hbS
      go_wp2_with fail
      go_ret
      exact ⟨rfl, hB⟩
    · have hu : U.2.2.2 = 122 := hlaw.out.2.1 (by first | exact .inl rfl | exact .inr rfl)
      have c0 : decide (U.2.2.2 = 122) = true := decide_eq_true hu
      have c1 : (U.2.2.2 == 122) = true := by rw [hu]; rfl
      clear hu
      go_wp2_with fail
      go_ret
      exact ⟨rfl, hB⟩
    · have hu : U.2.2.2 = 121 := hlaw.out.1 (by first | exact .inl rfl | exact .inr rfl)
      have c0 : decide (U.2.2.2 = 121) = true := decide_eq_true hu
      have c1 : (U.2.2.2 == 121) = true := by rw [hu]; rfl
      clear hu
      go_wp2_with fail
      go_ret
      exact ⟨rfl, hB⟩
    · have hu : U.2.2.2 = 122 := hlaw.out.2.1 (by first | exact .inl rfl | exact .inr rfl)
      have c0 : decide (U.2.2.2 = 122) = true := decide_eq_true hu
      have c1 : (U.2.2.2 == 122) = true := by rw [hu]; rfl
      clear hu
      go_wp2_with fail
      go_ret
      exact ⟨rfl, hB⟩
    · have hv := hlaw.out.2.2.2.2 (by first | exact .inl rfl | exact .inr rfl)
      have hu : U.2.2.2 = 0 := by rw [hv]; exact h0.out
      have c0 : decide (U.2.2.2 = 0) = true := decide_eq_true hu
      have c1 : (U.2.2.2 == 0) = true := by rw [hu]; rfl
      clear hu
      replace hv := Lib.hid hv
      have t0 := (blk_cell h10 0).trans rfl
      have t1 := (blk_cell h10 1).trans rfl
      have t2 := (blk_cell h10 2).trans rfl
      have p0 := (blk_cell h13 0).trans rfl
      have p1 := (blk_cell h13 1).trans rfl
      have p2 := (blk_cell h13 2).trans rfl
      go_wp2_with fail
      have hcl := Sy.same_yes T.1 AU BU AT BT T.2.1.length T.2.2.1.length T.2.1.length T.2.2.1.length T.2.1 T.2.2.1 w11 (hv.out ▸ hAU) (hv.out ▸ hBU) hAT hBT (by have := hlT.out; omega) (by have := hlT.out; omega)
      rw [hv.out]
      refine (hcl).mono ?_
      rintro e' w14 ⟨rfl, hbS⟩
      clear t0 t1 t2 p0 p1 p2
      replace h4 := blk_below h4 hbS
      replace hB := below_then hB hB.size hbS
      replace hA := Kd.C_below hA hbS
      replace hN := Kd.C_below hN hbS
      replace h8 := blk_below h8 hbS
      replace h9 := blk_below h9 hbS
      replace hAT := Kd.C_below hAT hbS
      replace hBT := Kd.C_below hBT hbS
      replace h10 := blk_below h10 hbS
      replace h12 := blk_below h12 hbS
      replace hAU := Kd.C_below hAU hbS
      replace hBU := Kd.C_below hBU hbS
      replace h13 := blk_below h13 hbS
      clear hbS
      go_wp2_with fail
      go_ret
      exact ⟨rfl, hB⟩
    · have hv := hlaw.out.2.2.2.2 (by first | exact .inl rfl | exact .inr rfl)
      have hu : U.2.2.2 = 0 := by rw [hv]; exact h0.out
      have c0 : decide (U.2.2.2 = 0) = true := decide_eq_true hu
      have c1 : (U.2.2.2 == 0) = true := by rw [hu]; rfl
      clear hu
      replace hv := Lib.hid hv
      have t0 := (blk_cell h10 0).trans rfl
      have t1 := (blk_cell h10 1).trans rfl
      have t2 := (blk_cell h10 2).trans rfl
      have p0 := (blk_cell h13 0).trans rfl
      have p1 := (blk_cell h13 1).trans rfl
      have p2 := (blk_cell h13 2).trans rfl
      go_wp2_with fail
      have hcl := Sy.same_yes T.1 AU BU AT BT T.2.1.length T.2.2.1.length T.2.1.length T.2.2.1.length T.2.1 T.2.2.1 w11 (hv.out ▸ hAU) (hv.out ▸ hBU) hAT hBT (by have := hlT.out; omega) (by have := hlT.out; omega)
      rw [hv.out]
      refine (hcl).mono ?_
      rintro e' w14 ⟨rfl, hbS⟩
      clear t0 t1 t2 p0 p1 p2
      replace h4 := blk_below h4 hbS
      replace hB := below_then hB hB.size hbS
      replace hA := Kd.C_below hA hbS
      replace hN := Kd.C_below hN hbS
      replace h8 := blk_below h8 hbS
      replace h9 := blk_below h9 hbS
      replace hAT := Kd.C_below hAT hbS
      replace hBT := Kd.C_below hBT hbS
      replace h10 := blk_below h10 hbS
      replace h12 := blk_below h12 hbS
      replace hAU := Kd.C_below hAU hbS
      replace hBU := Kd.C_below hBU hbS
      replace h13 := blk_below h13 hbS
      clear hbS
      go_wp2_with fail
      go_ret
      exact ⟨rfl, hB⟩
    · obtain ⟨hu, hv⟩ := hlaw.out.2.2.2.1 rfl
      have c0 : decide (U.2.2.2 = 0) = true := decide_eq_true hu
      have c1 : (U.2.2.2 == 0) = true := by rw [hu]; rfl
      have hv2 := hep.out
      have hv3 := (rightS_iff.1 hrs.out).1.1
      have c2 : decide (U.1 = ep + 2) = true := decide_eq_true hv
      have c3 : (U.1 == ep + 2) = true := by rw [hv]; exact beq_self_eq_true _
      have c4 : wrap64 (ep + 2) = ep + 2 := by unfold wrap64; omega
      clear hu hv hv2 hv3
      have s0 := (blk_cell h8 0).trans rfl
      have s1 := (blk_cell h8 1).trans rfl
      have s2 := (blk_cell h8 2).trans rfl
      have p0 := (blk_cell h13 0).trans rfl
      have p1 := (blk_cell h13 1).trans rfl
      have p2 := (blk_cell h13 2).trans rfl
      go_wp2_with fail
      go_ret
      exact ⟨rfl, hB⟩
  · have b0 : (T.2.2.2 != 0) = true := bne_iff_ne.mpr h0
    clear h0
    go_wp2_with fail
    go_ret
    exact ⟨rfl, hB⟩
end Go.Proofs.YtldlkbjbfgieeaaGreatDoor.Tc
namespace Go.Proofs.YtldlkbjbfgieeaaGreatDoor.Tr
open Go.RowKit Go.Proofs.YtldlkbjbfgieeaaGreatDoorW.PrintWords Go.Proofs.YtldlkbjbfgieeaaGreatDoor.Q
open Go.Proofs.YtldlkbjbfgieeaaGreatDoor.La (In64)
theorem wf_in {y : Int} (h : (Lit.int .i64 y).wf = true) : In64 y := by
  unfold In64
  simpa [Lit.wf, IntKind.min, IntKind.max, IntKind.signed, IntKind.bits] using h
theorem raws_in {l : List S40} {p q : Prop} {b0 b1 : S40 → Prop} (hV : p ∧ q ∧ ∀ x ∈ l, (Lit.int .i64 x.f0).wf = true ∧ (Lit.int .i64 x.f1).wf = true ∧ (Lit.int .i64 x.f2).wf = true ∧ b0 x ∧ b1 x ∧ ∀ y ∈ x.f3, (Lit.int .i64 y).wf = true) :
    ∀ x ∈ l, In64 x.f0 ∧ In64 x.f1 ∧ In64 x.f2 ∧ ∀ z ∈ x.f3, In64 z := fun x hx => ⟨wf_in (hV.2.2 x hx).1, wf_in (hV.2.2 x hx).2.1, wf_in (hV.2.2 x hx).2.2.1, fun z hz => wf_in ((hV.2.2 x hx).2.2.2.2.2 z hz)⟩
theorem twice_row (A : Option Addr) (c : Nat) (l : List S40) (f0 f1 f2 : Int) (A1 : Option Addr) (c1 : Nat) (f3 : List Int) (want : Int) (w : World) (hr : Kd.C k40 w A l.length l) (hc : l.length ≤ c) {p q : Prop} {b0 b1 : S40 → Prop} (hV : p ∧ q ∧ ∀ x ∈ l, (Lit.int .i64 x.f0).wf = true ∧ (Lit.int .i64 x.f1).wf = true ∧ (Lit.int .i64 x.f2).wf = true ∧ b0 x ∧ b1 x ∧ ∀ y ∈ x.f3, (Lit.int .i64 y).wf = true)
    (hr1 : Kd.C (Kd.int .i64) w A1 f3.length f3) (hc1 : f3.length ≤ c1) {p1 q1 : Prop} (hV1 : (Lit.int .i64 f0).wf = true ∧ (Lit.int .i64 f1).wf = true ∧ (Lit.int .i64 f2).wf = true ∧ p1 ∧ q1 ∧ ∀ y ∈ f3, (Lit.int .i64 y).wf = true) (hw : (Lit.int .i64 want).wf = true) :
    Calls Tryz.prog 7 #[.slice A l.length c, .agg #[.int .i64 f0, .int .i64 f1, .int .i64 f2, .slice A1 f3.length c1], .int .i64 want] w fun e w' => e = .returned (.bool true) ∧ Below w.heap.size w w' :=
  Tc.twice_any Aw.awake_any A c l w hr hc (raws_in hV) ⟨f0, f1, f2, f3⟩ A1 c1 hc1 hr1 ⟨wf_in hV1.1, wf_in hV1.2.1, wf_in hV1.2.2.1, fun z hz => wf_in (hV1.2.2.2.2.2 z hz)⟩ want (wf_in hw)
end Go.Proofs.YtldlkbjbfgieeaaGreatDoor.Tr
