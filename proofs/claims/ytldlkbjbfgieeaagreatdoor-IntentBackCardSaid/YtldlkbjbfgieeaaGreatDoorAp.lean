/- intent.Apply: the walk. -/
/- thin -/
import Derived.Test.YtldlkbjbfgieeaaGreatDoorCw
import Derived.Test.YtldlkbjbfgieeaaGreatDoorClW
import Derived.Test.YtldlkbjbfgieeaaGreatDoorRi
namespace Go.Proofs.YtldlkbjbfgieeaaGreatDoor.Ap
set_option linter.unusedVariables false
set_option linter.unusedSimpArgs false
open Go.RowKit Go.Proofs.YtldlkbjbfgieeaaGreatDoorW.PrintWords Go.Proofs.YtldlkbjbfgieeaaGreatDoorW.PrintLast Mo Q Rw Cb Ch
open Go.Proofs.YtldlkbjbfgieeaaGreatDoor.Ri (rightS rightO rightP goW goN rightW rightN Small stV)
/-- the state behind an operation, and the error -/
def applyS (e : Int) (ws : List W) (ns : List N) (k : Int) (x : W) (y : N) (id : ByteArray) (want : Int) : Int × List W × List N × Int :=
 if rightS e ws ns = true ∧ rightO k x y id want = true then (if (chS e ws ns k x y id want).2.2.2 = 0 then chS e ws ns k x y id want else (0, [], [], (chS e ws ns k x y id want).2.2.2)) else (0, [], [], 120)
/-- rows of a call's own -/
def RoW (w0 w : World) (A : Option Addr) (l : List W) : Prop := ∃ c, k32.R 32 w w0.heap.size (fun _ => True) (.slice A l.length c) l
def RoN (w0 w : World) (A : Option Addr) (l : List N) : Prop := ∃ c, k34.R 34 w w0.heap.size (fun _ => True) (.slice A l.length c) l
def ApPost (w : World) (r : Int × List W × List N × Int) (e : Ending) (w' : World) : Prop := ∃ A B, e = .returned (.tuple #[stV r.1 A r.2.1.length r.2.1.length B r.2.2.1.length r.2.2.1.length, .int .i64 r.2.2.2]) ∧ RoW w w' A r.2.1 ∧ RoN w w' B r.2.2.1 ∧ Below w.heap.size w w'
abbrev stC (e : Int) (A : Option Addr) (n c : Nat) (B : Option Addr) (m d : Nat) : Obj := .cells #[.int .i64 e, .slice A n c, .slice B m d] 27
abbrev stZ : Obj := .cells #[.int .i64 0, .slice none 0 0, .slice none 0 0] 27
theorem ascW {ws : List W} {last : ByteArray} (h : goW ws last = true) : (∀ x ∈ ws, lt last x.f0 = true) ∧ FiW.Asc ws := by
 induction ws generalizing last with
 | nil => exact ⟨fun x hx => (by cases hx), fun a b _ hb => absurd hb (by simp)⟩
 | cons x l ih =>
  unfold goW at h
  simp only [Bool.and_eq_true] at h
  obtain ⟨⟨_, h2⟩, h3⟩ := h
  obtain ⟨i1, i2⟩ := ih h3
  refine ⟨fun z hz => ?_, fun a b hab hb id hlt => ?_⟩
  ·rcases List.mem_cons.1 hz with rfl | hz
   ·exact h2
   ·exact lt_trans h2 (i1 z hz)
  ·cases b with
   | zero => obtain rfl : a = 0 := by omega
             exact hlt
   | succ b =>
    rw [List.getD_cons_succ] at hlt
    cases a with
    | zero =>
     rw [List.getD_cons_zero]
     have hb' : b < l.length := by simpa using hb
     refine lt_trans (i1 _ ?_) hlt
     rw [List.getD_eq_getElem?_getD, List.getElem?_eq_getElem hb']
     exact List.getElem_mem hb'
    | succ a =>
     rw [List.getD_cons_succ]
     exact i2 a b (by omega) (by simpa using hb) id hlt
theorem ascN {ns : List N} {last : ByteArray} (h : goN ns last = true) : (∀ x ∈ ns, lt last x.f0 = true) ∧ FiN.Asc ns := by
 induction ns generalizing last with
 | nil => exact ⟨fun x hx => (by cases hx), fun a b _ hb => absurd hb (by simp)⟩
 | cons x l ih =>
  unfold goN at h
  simp only [Bool.and_eq_true] at h
  obtain ⟨⟨_, h2⟩, h3⟩ := h
  obtain ⟨i1, i2⟩ := ih h3
  refine ⟨fun z hz => ?_, fun a b hab hb id hlt => ?_⟩
  ·rcases List.mem_cons.1 hz with rfl | hz
   ·exact h2
   ·exact lt_trans h2 (i1 z hz)
  ·cases b with
   | zero => obtain rfl : a = 0 := by omega
             exact hlt
   | succ b =>
    rw [List.getD_cons_succ] at hlt
    cases a with
    | zero =>
     rw [List.getD_cons_zero]
     have hb' : b < l.length := by simpa using hb
     refine lt_trans (i1 _ ?_) hlt
     rw [List.getD_eq_getElem?_getD, List.getElem?_eq_getElem hb']
     exact List.getElem_mem hb'
    | succ a =>
     rw [List.getD_cons_succ]
     exact i2 a b (by omega) (by simpa using hb) id hlt
theorem grownS (W : World) (o j : Nat) (v : Value) : W.grownBy (W.setCell ⟨o, j, none⟩ v) (some o) := ⟨rfl, rfl, rfl, by simp [World.setCell], fun k _ hk => Below.heap_setCell _ _ _ k (fun e => hk (by rw [e]))⟩
theorem put3 {w2 : World} {o t : Nat} {z0 z1 z2 : Value} (a0 a1 a2 : Value) (h : w2.heap[o]? = some (.cells #[z0, z1, z2] t (0, 0))) : (((w2.setCell ⟨o, 0, none⟩ a0).setCell ⟨o, 1, none⟩ a1).setCell ⟨o, 2, none⟩ a2).heap[o]? = some (.cells #[a0, a1, a2] t (0, 0)) ∧ w2.grownBy (((w2.setCell ⟨o, 0, none⟩ a0).setCell ⟨o, 1, none⟩ a1).setCell ⟨o, 2, none⟩ a2) (some o) := by
 have h0 := blk_put h 0 a0 (cs' := #[a0, z1, z2]) rfl
 have h1 := blk_put h0 1 a1 (cs' := #[a0, a1, z2]) rfl
 have h2 := blk_put h1 2 a2 (cs' := #[a0, a1, a2]) rfl
 exact ⟨h2, ((grownS _ _ _ _).trans (grownS _ _ _ _)).trans (grownS _ _ _ _)⟩
theorem R_put3 {α : Type} {d : Kd α} {e base g t : Nat} {ok : Nat → Prop} {w : World} {V : Value} {l : List α} {cs : Array Value} (h : d.R e w base ok V l) (hb : w.heap[g]? = some (.cells cs t (0, 0))) (ht : ∀ q, q ∈ e :: d.E → q ≠ t) (a0 a1 a2 : Value) : d.R e (((w.setCell ⟨g, 0, none⟩ a0).setCell ⟨g, 1, none⟩ a1).setCell ⟨g, 2, none⟩ a2) base ok V l :=
 Kd.R_set (Kd.R_set (Kd.R_set h hb ht 0 a0) (blk_set hb 0 a0) ht 1 a1) (blk_set (blk_set hb 0 a0) 1 a1) ht 2 a2
theorem op_range {k : Int} {x : W} {y : N} {id : ByteArray} {want : Int} (h : rightO k x y id want = true) : 1 ≤ k ∧ k ≤ 8 := by
 unfold rightO at h
 by_cases h1 : k = 1
 ·omega
 by_cases h4 : k = 4
 ·omega
 by_cases h2 : k = 2
 ·omega
 by_cases h3 : k = 3
 ·omega
 by_cases h5 : k = 5
 ·omega
 by_cases h6 : k = 6
 ·omega
 by_cases h7 : k = 7
 ·omega
 rw [if_neg h1, if_neg h4, if_neg h2, if_neg h3, if_neg h5, if_neg h6, if_neg h7, decide_eq_true_eq] at h
 omega
set_option maxHeartbeats 8000000 in
set_option maxRecDepth 100000 in
theorem apply_bad (e : Int) (A B : Option Addr) (c d : Nat) (ws : List W) (ns : List N) (k : Int) (x : W) (y : N) (id : ByteArray) (want : Int) (w : World) (hA : Kd.C k32 w A ws.length ws) (hc : ws.length ≤ c) (hN : Kd.C k34 w B ns.length ns) (hd : ns.length ≤ d) (hs : Small ws ns) (hx : x.f5.size < 4294967281) (hy : y.f3.size < 4294967281) (h1_ : rightS e ws ns = true) (h2_ : rightO k x y id want = true) (hb : ¬ (chS e ws ns k x y id want).2.2.2 = 0) (hk2 : Hid (k = 1 ∨ k = 2 ∧ FiW.has ws id = false)) :
 Calls Tryz.prog 12 #[stV e A ws.length c B ns.length d, opV k x y id want] w (ApPost w (0, [], [], (chS e ws ns k x y id want).2.2.2)) := by
 have hO_ := fun W => Ri.iop_any k x y id want W hx hy
 simp only [h2_] at hO_
 have hO_' := Lib.hid hO_
 clear hO_
 unfold rightS rightP at h1_
 have hq : (0 ≤ e ∧ e ≤ 1099511627776) ∧ (ws.length ≤ 8 ∧ ns.length ≤ 8) ∧ goW ws ByteArray.empty = true ∧ goN ns ByteArray.empty = true := by
  simp only [Bool.and_eq_true, decide_eq_true_eq] at h1_
  exact ⟨h1_.1, ⟨h1_.2.1.1.1, h1_.2.1.1.2⟩, h1_.2.1.2, h1_.2.2⟩
 have hr1 : rightS e ws ns = true := by unfold rightS rightP; exact h1_
 clear h1_
 obtain ⟨he, ⟨hl, hm⟩, hgw, hgn⟩ := hq
 have hasc := Lib.hid (ascW hgw).2
 have hascn := Lib.hid (ascN hgn).2
 have hk := Lib.hid (op_range h2_)
 clear hgw hgn
 have hB0 := below_alloc (below_alloc (below_alloc (Below.refl w.heap.size w) (stC e A ws.length c B ns.length d)) (opC k x y id want)) stZ
 have hS0 := blk_alloc (blk_alloc (blk_new w (stC e A ws.length c B ns.length d)) (opC k x y id want)) stZ
 have hO0 := blk_alloc (blk_new (w.alloc (stC e A ws.length c B ns.length d)) (opC k x y id want)) stZ
 have hZ0 := blk_new ((w.alloc (stC e A ws.length c B ns.length d)).alloc (opC k x y id want)) stZ
 obtain ⟨g, hg⟩ : ∃ g, g = w.heap.size := ⟨_, rfl⟩
 obtain ⟨o, ho⟩ : ∃ o, o = w.heap.size + 1 := ⟨_, rfl⟩
 obtain ⟨z, hz⟩ : ∃ z, z = w.heap.size + 1 + 1 := ⟨_, rfl⟩
 have h1 : g ≠ o := by omega
 have h2 : g ≠ z := by omega
 have h3 : o ≠ z := by omega
 have q1 : w.heap.size ≤ g := by omega
 have q2 : w.heap.size ≤ z := by omega
 rw [← hg] at hS0
 replace hO0 : _ = _ := hO0
 rw [show (w.alloc (stC e A ws.length c B ns.length d)).heap.size = o by simp [ho]] at hO0
 rw [show ((w.alloc (stC e A ws.length c B ns.length d)).alloc (opC k x y id want)).heap.size = z by simp [hz]] at hZ0
 have hg' := Lib.hid hg
 have ho' := Lib.hid ho
 have hz' := Lib.hid hz
 clear hg ho hz
 go_enter Tryz.func12, Tryz.ntmps12
 go_wp2_with fail
 try simp only [Nat.add_assoc] at hz'
 rw [← hz'.out, ← ho'.out, ← hg'.out]
 revert hB0; revert hS0; revert hO0; revert hZ0
 generalize ((w.alloc (stC e A ws.length c B ns.length d)).alloc (opC k x y id want)).alloc stZ = wa
 intro hZ0 hO0 hS0 hB0
 have hA0 := Kd.C_below hA hB0
 have hN0 := Kd.C_below hN hB0
 have s0 := (blk_cell hS0 0).trans rfl
 have s1 := (blk_cell hS0 1).trans rfl
 have s2 := (blk_cell hS0 2).trans rfl
 refine (Ri.right_any e A B c d ws ns _ hA0 hc hN0 hd hs).mono ?_; rintro r w1 ⟨rfl, hb1⟩
 have hS1 := blk_below hS0 hb1
 have hO1 := blk_below hO0 hb1
 have hZ1 := blk_below hZ0 hb1
 have hB1 := below_then hB0 hB0.size hb1
 have hA1 := Kd.C_below hA0 hb1
 have hN1 := Kd.C_below hN0 hb1
 clear s0 s1 s2 hb1
 rw [hr1]
 have o0 := (blk_cell hO1 0).trans rfl
 have o1 := (blk_cell hO1 1).trans rfl
 have o2 := (blk_cell hO1 2).trans rfl
 have o3 := (blk_cell hO1 3).trans rfl
 have o4 := (blk_cell hO1 4).trans rfl
 have o5 := (blk_cell hO1 5).trans rfl
 have o6 := (blk_cell hO1 6).trans rfl
 have o7 := (blk_cell hO1 7).trans rfl
 have o8 := (blk_cell hO1 8).trans rfl
 have o9 := (blk_cell hO1 9).trans rfl
 have o10 := (blk_cell hO1 10).trans rfl
 have o11 := (blk_cell hO1 11).trans rfl
 have o12 := (blk_cell hO1 12).trans rfl
 have o13 := (blk_cell hO1 13).trans rfl
 go_wp2_with fail
 refine (hO_'.out _).mono ?_; rintro r w2 ⟨rfl, hb2⟩
 have hS2 := blk_below hS1 hb2
 have hO2 := blk_below hO1 hb2
 have hZ2 := blk_below hZ1 hb2
 have hB2 := below_then hB1 hB1.size hb2
 have hA2 := Kd.C_below hA1 hb2
 have hN2 := Kd.C_below hN1 hb2
 clear o0 o1 o2 o3 o4 o5 o6 o7 o8 o9 o10 o11 o12 o13 hb2 hr1
 go_wp2_with fail
 have hS3 := blk_drew hS2
 have hO3 := blk_drew hO2
 have hZ3 := blk_drew hZ2
 have hB3 := below_drew hB2
 have hA3 := Kd.C_below hA2 (below_drew (Below.refl _ _))
 have hN3 := Kd.C_below hN2 (below_drew (Below.refl _ _))
 refine start_ (n := 10) (S := fun w' => w'.cell? ⟨g, 1, none⟩ = some (.slice A ws.length c) ∧ w'.cell? ⟨g, 2, none⟩ = some (.slice B ns.length d)) (ds := [7, 9]) (upT 10 0) (by kernel_rfl) rfl (by kernel_rfl) (⟨(blk_cell hS3 1).trans rfl, (blk_cell hS3 2).trans rfl⟩) (fun hHeld => ?_)
 refine pu 16 (v := ?_) (a' := ?_) rfl rfl (by kernel_rfl) (fun _ _ _ h => h) (Or.inl ⟨by rfl, ?_⟩) ?_ ?_; rotate_left; (·intro w'; go_simp; with_reducible rfl); rotate_left; (·simp only [Act.put, List.setIfInBounds_toArray, List.set_cons_zero, List.set_cons_succ, i64_w, i32_w, Nat.reduceAdd]; rfl); conv => arg 8; arg 2; simp only [Nat.reduceAdd]
 refine tu 16 (v := ?_) (a' := ?_) rfl rfl (by kernel_rfl) (fun _ _ _ h => h) (Or.inl ⟨by rfl, ?_⟩) hHeld ?_ ?_; rotate_left; (·rintro w' ⟨s0_, s1_⟩; go_simp; with_reducible rfl); rotate_left; (·simp only [Act.put, List.setIfInBounds_toArray, List.set_cons_zero, List.set_cons_succ, i64_w, i32_w, Nat.reduceAdd]; rfl); conv => arg 8; arg 2; simp only [Nat.reduceAdd]
 refine pure_ (i := 3) (N := some 19) (v := ?_) (a' := ?_) #[true, true, false, true, false, false, false, false, false, false] rfl rfl (by kernel_rfl) (fun _ _ _ h => h) (Or.inl ⟨by rfl, ?_⟩) ?_ ?_; rotate_left; (·intro w'; go_simp; with_reducible rfl); rotate_left; (·simp only [Act.put, List.setIfInBounds_toArray, List.set_cons_zero, List.set_cons_succ, i64_w, i32_w, Nat.reduceAdd]; rfl)
 refine take_ (i := 4) (N := some 20) (v := ?_) (a' := ?_) #[true, true, false, true, true, false, false, false, false, false] rfl rfl (by kernel_rfl) (fun _ _ _ h => h) (Or.inl ⟨by rfl, ?_⟩) hHeld ?_ ?_; rotate_left; (·rintro w' ⟨s0_, s1_⟩; go_simp; with_reducible rfl); rotate_left; (·simp only [Act.put, List.setIfInBounds_toArray, List.set_cons_zero, List.set_cons_succ, i64_w, i32_w, Nat.reduceAdd]; rfl)
 refine one_ (i := 2) (N := some 18) (upT 10 5) rfl rfl (by kernel_rfl) (by decide) (fun K hK => ?_)
 refine goes_ Tryz.func30 (by kernel_rfl) rfl #[.slice A ws.length c] (by rfl) rfl rfl (by (try simp only [List.map_toArray, List.map_cons, List.map_nil]); rfl) ?_
 refine (ClW.clone A c ws _ hA3 (by omega)).mono ?_
 rintro e4 w4 ⟨V1, rfl, hR4, hb4⟩
 have hS4 := blk_below hS3 hb4
 have hZ4 := blk_below hZ3 hb4
 have hO4 := blk_below hO3 hb4
 have hB4 := below_then hB3 hB3.size hb4
 have hN4 := Kd.C_below hN3 hb4
 obtain ⟨A1, c1, rfl⟩ := Kd.R_slice hR4
 refine ⟨_, rfl, ?_⟩
 refine hK.out _ _ ⟨(blk_cell hS4 1).trans rfl, (blk_cell hS4 2).trans rfl⟩ (fun hHeld => ?_)
 clear hK K
 refine norm_ (a' := ?_) ?_ ?_
 rotate_left
 ·show Act.put _ (some 18) _ = _
  simp only [Act.put, List.setIfInBounds_toArray, List.set_cons_zero, List.set_cons_succ, i64_w, i32_w, Nat.reduceAdd]
  rfl
 refine one_ (i := 5) (N := some 21) (upT 10 6) rfl rfl (by kernel_rfl) (by decide) (fun K hK => ?_)
 refine goes_ Tryz.func31 (by kernel_rfl) rfl #[.slice B ns.length d] (by rfl) rfl rfl (by (try simp only [List.map_toArray, List.map_cons, List.map_nil]); rfl) ?_
 refine (ClN.clone B d ns _ hN4 (by omega)).mono ?_
 rintro e5 w5 ⟨U1, rfl, hR5, hb5⟩
 have hS5 := blk_below hS4 hb5
 have hZ5 := blk_below hZ4 hb5
 have hO5 := blk_below hO4 hb5
 have hB5 := below_then hB4 hB4.size hb5
 have hR45 := Kd.R_below hR4 hb5
 obtain ⟨B1, d1, rfl⟩ := Kd.R_slice hR5
 refine ⟨_, rfl, ?_⟩
 refine hK.out _ _ ⟨(blk_cell hS5 1).trans rfl, (blk_cell hS5 2).trans rfl⟩ (fun hHeld => ?_)
 clear hK K
 refine norm_ (a' := ?_) ?_ ?_
 rotate_left
 ·show Act.put _ (some 21) _ = _
  simp only [Act.put, List.setIfInBounds_toArray, List.set_cons_zero, List.set_cons_succ, i64_w, i32_w, Nat.reduceAdd]
  rfl
 refine pu 16 (v := ?_) (a' := ?_) rfl rfl (by kernel_rfl) (fun _ _ _ h => h) (Or.inl ⟨by rfl, ?_⟩) ?_ ?_; rotate_left; (·intro w'; go_simp; with_reducible rfl); rotate_left; (·simp only [Act.put, List.setIfInBounds_toArray, List.set_cons_zero, List.set_cons_succ, i64_w, i32_w, Nat.reduceAdd]; rfl); conv => arg 8; arg 2; simp only [Nat.reduceAdd]
 refine last_ (i := 7) (N := none) (upT 10 8) rfl rfl (by kernel_rfl) (by decide) (fun K hK => ?_)
 have hs_ := (blk_cell hS5 1).trans rfl
 have hf_ := blk_frozen hS5 1
 refine skip_ (w1 := ?_) (by rfl) rfl ?_ ?_
 rotate_left
 ·go_simp
  rfl
 refine hK.out _ _ ?_
 clear hK K
 refine pu 15 (v := ?_) (a' := ?_) rfl rfl (by kernel_rfl) (fun _ _ _ h => h) (Or.inl ⟨by rfl, ?_⟩) ?_ ?_; rotate_left; (·intro w'; go_simp; with_reducible rfl); rotate_left; (·simp only [Act.put, List.setIfInBounds_toArray, List.set_cons_zero, List.set_cons_succ, i64_w, i32_w, Nat.reduceAdd]; rfl); conv => arg 8; arg 2; simp only [Nat.reduceAdd]
 refine last_ (i := 9) (N := none) (upT 10 10) rfl rfl (by kernel_rfl) (by decide) (fun K hK => ?_)
 have hS6 := blk_put hS5 1 (.slice A1 ws.length c1) rfl
 have hs_ := (blk_cell hS6 2).trans rfl
 have hf_ := blk_frozen hS6 2
 refine skip_ (w1 := ?_) (by rfl) rfl ?_ ?_
 rotate_left
 ·go_simp
  rfl
 refine hK.out _ _ ?_
 clear hK K
 refine done_ (by kernel_rfl) ?_
 have hS7 := blk_put hS6 2 (.slice B1 ns.length d1) rfl
 have hZ6 := blk_far (p := ⟨g, 1, none⟩) hZ5 (Ne.symm h2) (.slice A1 ws.length c1)
 have hZ7 := blk_far (p := ⟨g, 2, none⟩) hZ6 (Ne.symm h2) (.slice B1 ns.length d1)
 have hO6 := blk_far (p := ⟨g, 1, none⟩) hO5 (Ne.symm h1) (.slice A1 ws.length c1)
 have hO7 := blk_far (p := ⟨g, 2, none⟩) hO6 (Ne.symm h1) (.slice B1 ns.length d1)
 have hB7 : Below w.heap.size w _ := (hB5.setCell (p := ⟨g, 1, none⟩) q1 (.slice A1 ws.length c1)).setCell (p := ⟨g, 2, none⟩) q1 (.slice B1 ns.length d1)
 have hSt : St w ((w5.setCell ⟨g, 1, none⟩ (.slice A1 ws.length c1)).setCell ⟨g, 2, none⟩ (.slice B1 ns.length d1)) g e (.slice A1 ws.length c1) (.slice B1 ns.length d1) ws ns :=
  ⟨hS7, q1, Kd.R_set (Kd.R_set (Kd.R_lower hR45 hB3.size) hS5 (by decide) 1 _) hS6 (by decide) 2 _, Kd.R_set (Kd.R_set (Kd.R_lower hR5 hB4.size) hS5 (by decide) 1 _) hS6 (by decide) 2 _⟩
 clear hS2 hO2 hZ2 hB2 hA2 hN2 hS3 hO3 hZ3 hB3 hA3 hN3 hS4 hZ4 hO4 hB4 hN4 hR4 hS5 hO5 hZ5 hB5 hR45 hR5 hZ6 hO6 hS6 hA1 hN1 hS1 hO1 hZ1 hB1 hA0 hN0 hS0 hO0 hZ0 hB0 hHeld
 have hw7 : ∀ V U, (w5.setCell ⟨g, 1, none⟩ V).setCell ⟨g, 2, none⟩ U = (w5.setCell ⟨g, 1, none⟩ V).setCell ⟨g, 2, none⟩ U := fun _ _ => rfl
 clear hw7
 revert hS7 hZ7 hO7 hB7 hSt
 generalize (w5.setCell ⟨g, 1, none⟩ (.slice A1 ws.length c1)).setCell ⟨g, 2, none⟩ (.slice B1 ns.length d1) = w7
 intro hS7 hZ7 hO7 hB7 hSt
 have o0 := (blk_cell hO7 0).trans rfl
 have o1 := (blk_cell hO7 1).trans rfl
 have o2 := (blk_cell hO7 2).trans rfl
 have o3 := (blk_cell hO7 3).trans rfl
 have o4 := (blk_cell hO7 4).trans rfl
 have o5 := (blk_cell hO7 5).trans rfl
 have o6 := (blk_cell hO7 6).trans rfl
 have o7 := (blk_cell hO7 7).trans rfl
 have o8 := (blk_cell hO7 8).trans rfl
 have o9 := (blk_cell hO7 9).trans rfl
 have o10 := (blk_cell hO7 10).trans rfl
 have o11 := (blk_cell hO7 11).trans rfl
 have o12 := (blk_cell hO7 12).trans rfl
 have o13 := (blk_cell hO7 13).trans rfl
 go_wp2_with fail
 refine (change_any k g e _ _ ws ns x y id want w w7 hSt hB7 hasc.out hascn.out hl hm he hk2.out).mono ?_
 rintro r w8 ⟨rfl, hB8, hF8, hR8⟩
 have hZ8 := (hF8.2 z _ _ hZ7 (Ne.symm h2) (by decide) (by decide)).trans hZ7
 clear hS7 hZ7 hO7 hB7 hSt hF8 o0 o1 o2 o3 o4 o5 o6 o7 o8 o9 o10 o11 o12 o13
 generalize chS e ws ns k x y id want = R at *
 have b1 : (R.2.2.2 != 0) = true := bne_iff_ne.mpr hb
 clear hb hR8
 have z0 := (blk_cell hZ8 0).trans rfl
 have z1 := (blk_cell hZ8 1).trans rfl
 have z2 := (blk_cell hZ8 2).trans rfl
 have y0 := blk_frozen hZ8 0
 have y1 := blk_frozen hZ8 1
 have y2 := blk_frozen hZ8 2
 obtain ⟨hZ9, hG9⟩ := put3 (.int .i64 0) (.slice none 0 0) (.slice none 0 0) hZ8
 replace hZ9 := Lib.hid hZ9
 replace hG9 := Lib.hid hG9
 go_wp2_with fail
 refine bodyPost_ret (results_ct rfl _ _ z 27 _ (0, 0) _ rfl hZ9.out Tryz.underlying27 rfl (by kernel_rfl)) rfl ?_
 exact ⟨none, none, rfl, ⟨0, Kd.R_nil _ _ _ _ _⟩, ⟨0, Kd.R_nil _ _ _ _ _⟩, hB8.grown hG9.out hB8.size (fun k e => by injection e with e; omega)⟩
set_option maxHeartbeats 8000000 in
set_option maxRecDepth 100000 in
theorem apply_good (e : Int) (A B : Option Addr) (c d : Nat) (ws : List W) (ns : List N) (k : Int) (x : W) (y : N) (id : ByteArray) (want : Int) (w : World) (hA : Kd.C k32 w A ws.length ws) (hc : ws.length ≤ c) (hN : Kd.C k34 w B ns.length ns) (hd : ns.length ≤ d) (hs : Small ws ns) (hx : x.f5.size < 4294967281) (hy : y.f3.size < 4294967281) (h1_ : rightS e ws ns = true) (h2_ : rightO k x y id want = true) (hb : (chS e ws ns k x y id want).2.2.2 = 0) (hk2 : Hid (k = 1 ∨ k = 2 ∧ FiW.has ws id = false)) :
 Calls Tryz.prog 12 #[stV e A ws.length c B ns.length d, opV k x y id want] w (ApPost w (chS e ws ns k x y id want)) := by
 have hO_ := fun W => Ri.iop_any k x y id want W hx hy
 simp only [h2_] at hO_
 have hO_' := Lib.hid hO_
 clear hO_
 unfold rightS rightP at h1_
 have hq : (0 ≤ e ∧ e ≤ 1099511627776) ∧ (ws.length ≤ 8 ∧ ns.length ≤ 8) ∧ goW ws ByteArray.empty = true ∧ goN ns ByteArray.empty = true := by
  simp only [Bool.and_eq_true, decide_eq_true_eq] at h1_
  exact ⟨h1_.1, ⟨h1_.2.1.1.1, h1_.2.1.1.2⟩, h1_.2.1.2, h1_.2.2⟩
 have hr1 : rightS e ws ns = true := by unfold rightS rightP; exact h1_
 clear h1_
 obtain ⟨he, ⟨hl, hm⟩, hgw, hgn⟩ := hq
 have hasc := Lib.hid (ascW hgw).2
 have hascn := Lib.hid (ascN hgn).2
 have hk := Lib.hid (op_range h2_)
 clear hgw hgn
 have hB0 := below_alloc (below_alloc (below_alloc (Below.refl w.heap.size w) (stC e A ws.length c B ns.length d)) (opC k x y id want)) stZ
 have hS0 := blk_alloc (blk_alloc (blk_new w (stC e A ws.length c B ns.length d)) (opC k x y id want)) stZ
 have hO0 := blk_alloc (blk_new (w.alloc (stC e A ws.length c B ns.length d)) (opC k x y id want)) stZ
 have hZ0 := blk_new ((w.alloc (stC e A ws.length c B ns.length d)).alloc (opC k x y id want)) stZ
 obtain ⟨g, hg⟩ : ∃ g, g = w.heap.size := ⟨_, rfl⟩
 obtain ⟨o, ho⟩ : ∃ o, o = w.heap.size + 1 := ⟨_, rfl⟩
 obtain ⟨z, hz⟩ : ∃ z, z = w.heap.size + 1 + 1 := ⟨_, rfl⟩
 have h1 : g ≠ o := by omega
 have h2 : g ≠ z := by omega
 have h3 : o ≠ z := by omega
 have q1 : w.heap.size ≤ g := by omega
 have q2 : w.heap.size ≤ z := by omega
 rw [← hg] at hS0
 replace hO0 : _ = _ := hO0
 rw [show (w.alloc (stC e A ws.length c B ns.length d)).heap.size = o by simp [ho]] at hO0
 rw [show ((w.alloc (stC e A ws.length c B ns.length d)).alloc (opC k x y id want)).heap.size = z by simp [hz]] at hZ0
 have hg' := Lib.hid hg
 have ho' := Lib.hid ho
 have hz' := Lib.hid hz
 clear hg ho hz
 go_enter Tryz.func12, Tryz.ntmps12
 go_wp2_with fail
 try simp only [Nat.add_assoc] at hz'
 rw [← hz'.out, ← ho'.out, ← hg'.out]
 revert hB0; revert hS0; revert hO0; revert hZ0
 generalize ((w.alloc (stC e A ws.length c B ns.length d)).alloc (opC k x y id want)).alloc stZ = wa
 intro hZ0 hO0 hS0 hB0
 have hA0 := Kd.C_below hA hB0
 have hN0 := Kd.C_below hN hB0
 have s0 := (blk_cell hS0 0).trans rfl
 have s1 := (blk_cell hS0 1).trans rfl
 have s2 := (blk_cell hS0 2).trans rfl
 refine (Ri.right_any e A B c d ws ns _ hA0 hc hN0 hd hs).mono ?_; rintro r w1 ⟨rfl, hb1⟩
 have hS1 := blk_below hS0 hb1
 have hO1 := blk_below hO0 hb1
 have hZ1 := blk_below hZ0 hb1
 have hB1 := below_then hB0 hB0.size hb1
 have hA1 := Kd.C_below hA0 hb1
 have hN1 := Kd.C_below hN0 hb1
 clear s0 s1 s2 hb1
 rw [hr1]
 have o0 := (blk_cell hO1 0).trans rfl
 have o1 := (blk_cell hO1 1).trans rfl
 have o2 := (blk_cell hO1 2).trans rfl
 have o3 := (blk_cell hO1 3).trans rfl
 have o4 := (blk_cell hO1 4).trans rfl
 have o5 := (blk_cell hO1 5).trans rfl
 have o6 := (blk_cell hO1 6).trans rfl
 have o7 := (blk_cell hO1 7).trans rfl
 have o8 := (blk_cell hO1 8).trans rfl
 have o9 := (blk_cell hO1 9).trans rfl
 have o10 := (blk_cell hO1 10).trans rfl
 have o11 := (blk_cell hO1 11).trans rfl
 have o12 := (blk_cell hO1 12).trans rfl
 have o13 := (blk_cell hO1 13).trans rfl
 go_wp2_with fail
 refine (hO_'.out _).mono ?_; rintro r w2 ⟨rfl, hb2⟩
 have hS2 := blk_below hS1 hb2
 have hO2 := blk_below hO1 hb2
 have hZ2 := blk_below hZ1 hb2
 have hB2 := below_then hB1 hB1.size hb2
 have hA2 := Kd.C_below hA1 hb2
 have hN2 := Kd.C_below hN1 hb2
 clear o0 o1 o2 o3 o4 o5 o6 o7 o8 o9 o10 o11 o12 o13 hb2 hr1
 go_wp2_with fail
 have hS3 := blk_drew hS2
 have hO3 := blk_drew hO2
 have hZ3 := blk_drew hZ2
 have hB3 := below_drew hB2
 have hA3 := Kd.C_below hA2 (below_drew (Below.refl _ _))
 have hN3 := Kd.C_below hN2 (below_drew (Below.refl _ _))
 refine start_ (n := 10) (S := fun w' => w'.cell? ⟨g, 1, none⟩ = some (.slice A ws.length c) ∧ w'.cell? ⟨g, 2, none⟩ = some (.slice B ns.length d)) (ds := [7, 9]) (upT 10 0) (by kernel_rfl) rfl (by kernel_rfl) (⟨(blk_cell hS3 1).trans rfl, (blk_cell hS3 2).trans rfl⟩) (fun hHeld => ?_)
 refine pu 16 (v := ?_) (a' := ?_) rfl rfl (by kernel_rfl) (fun _ _ _ h => h) (Or.inl ⟨by rfl, ?_⟩) ?_ ?_; rotate_left; (·intro w'; go_simp; with_reducible rfl); rotate_left; (·simp only [Act.put, List.setIfInBounds_toArray, List.set_cons_zero, List.set_cons_succ, i64_w, i32_w, Nat.reduceAdd]; rfl); conv => arg 8; arg 2; simp only [Nat.reduceAdd]
 refine tu 16 (v := ?_) (a' := ?_) rfl rfl (by kernel_rfl) (fun _ _ _ h => h) (Or.inl ⟨by rfl, ?_⟩) hHeld ?_ ?_; rotate_left; (·rintro w' ⟨s0_, s1_⟩; go_simp; with_reducible rfl); rotate_left; (·simp only [Act.put, List.setIfInBounds_toArray, List.set_cons_zero, List.set_cons_succ, i64_w, i32_w, Nat.reduceAdd]; rfl); conv => arg 8; arg 2; simp only [Nat.reduceAdd]
 refine pure_ (i := 3) (N := some 19) (v := ?_) (a' := ?_) #[true, true, false, true, false, false, false, false, false, false] rfl rfl (by kernel_rfl) (fun _ _ _ h => h) (Or.inl ⟨by rfl, ?_⟩) ?_ ?_; rotate_left; (·intro w'; go_simp; with_reducible rfl); rotate_left; (·simp only [Act.put, List.setIfInBounds_toArray, List.set_cons_zero, List.set_cons_succ, i64_w, i32_w, Nat.reduceAdd]; rfl)
 refine take_ (i := 4) (N := some 20) (v := ?_) (a' := ?_) #[true, true, false, true, true, false, false, false, false, false] rfl rfl (by kernel_rfl) (fun _ _ _ h => h) (Or.inl ⟨by rfl, ?_⟩) hHeld ?_ ?_; rotate_left; (·rintro w' ⟨s0_, s1_⟩; go_simp; with_reducible rfl); rotate_left; (·simp only [Act.put, List.setIfInBounds_toArray, List.set_cons_zero, List.set_cons_succ, i64_w, i32_w, Nat.reduceAdd]; rfl)
 refine one_ (i := 2) (N := some 18) (upT 10 5) rfl rfl (by kernel_rfl) (by decide) (fun K hK => ?_)
 refine goes_ Tryz.func30 (by kernel_rfl) rfl #[.slice A ws.length c] (by rfl) rfl rfl (by (try simp only [List.map_toArray, List.map_cons, List.map_nil]); rfl) ?_
 refine (ClW.clone A c ws _ hA3 (by omega)).mono ?_
 rintro e4 w4 ⟨V1, rfl, hR4, hb4⟩
 have hS4 := blk_below hS3 hb4
 have hZ4 := blk_below hZ3 hb4
 have hO4 := blk_below hO3 hb4
 have hB4 := below_then hB3 hB3.size hb4
 have hN4 := Kd.C_below hN3 hb4
 obtain ⟨A1, c1, rfl⟩ := Kd.R_slice hR4
 refine ⟨_, rfl, ?_⟩
 refine hK.out _ _ ⟨(blk_cell hS4 1).trans rfl, (blk_cell hS4 2).trans rfl⟩ (fun hHeld => ?_)
 clear hK K
 refine norm_ (a' := ?_) ?_ ?_
 rotate_left
 ·show Act.put _ (some 18) _ = _
  simp only [Act.put, List.setIfInBounds_toArray, List.set_cons_zero, List.set_cons_succ, i64_w, i32_w, Nat.reduceAdd]
  rfl
 refine one_ (i := 5) (N := some 21) (upT 10 6) rfl rfl (by kernel_rfl) (by decide) (fun K hK => ?_)
 refine goes_ Tryz.func31 (by kernel_rfl) rfl #[.slice B ns.length d] (by rfl) rfl rfl (by (try simp only [List.map_toArray, List.map_cons, List.map_nil]); rfl) ?_
 refine (ClN.clone B d ns _ hN4 (by omega)).mono ?_
 rintro e5 w5 ⟨U1, rfl, hR5, hb5⟩
 have hS5 := blk_below hS4 hb5
 have hZ5 := blk_below hZ4 hb5
 have hO5 := blk_below hO4 hb5
 have hB5 := below_then hB4 hB4.size hb5
 have hR45 := Kd.R_below hR4 hb5
 obtain ⟨B1, d1, rfl⟩ := Kd.R_slice hR5
 refine ⟨_, rfl, ?_⟩
 refine hK.out _ _ ⟨(blk_cell hS5 1).trans rfl, (blk_cell hS5 2).trans rfl⟩ (fun hHeld => ?_)
 clear hK K
 refine norm_ (a' := ?_) ?_ ?_
 rotate_left
 ·show Act.put _ (some 21) _ = _
  simp only [Act.put, List.setIfInBounds_toArray, List.set_cons_zero, List.set_cons_succ, i64_w, i32_w, Nat.reduceAdd]
  rfl
 refine pu 16 (v := ?_) (a' := ?_) rfl rfl (by kernel_rfl) (fun _ _ _ h => h) (Or.inl ⟨by rfl, ?_⟩) ?_ ?_; rotate_left; (·intro w'; go_simp; with_reducible rfl); rotate_left; (·simp only [Act.put, List.setIfInBounds_toArray, List.set_cons_zero, List.set_cons_succ, i64_w, i32_w, Nat.reduceAdd]; rfl); conv => arg 8; arg 2; simp only [Nat.reduceAdd]
 refine last_ (i := 7) (N := none) (upT 10 8) rfl rfl (by kernel_rfl) (by decide) (fun K hK => ?_)
 have hs_ := (blk_cell hS5 1).trans rfl
 have hf_ := blk_frozen hS5 1
 refine skip_ (w1 := ?_) (by rfl) rfl ?_ ?_
 rotate_left
 ·go_simp
  rfl
 refine hK.out _ _ ?_
 clear hK K
 refine pu 15 (v := ?_) (a' := ?_) rfl rfl (by kernel_rfl) (fun _ _ _ h => h) (Or.inl ⟨by rfl, ?_⟩) ?_ ?_; rotate_left; (·intro w'; go_simp; with_reducible rfl); rotate_left; (·simp only [Act.put, List.setIfInBounds_toArray, List.set_cons_zero, List.set_cons_succ, i64_w, i32_w, Nat.reduceAdd]; rfl); conv => arg 8; arg 2; simp only [Nat.reduceAdd]
 refine last_ (i := 9) (N := none) (upT 10 10) rfl rfl (by kernel_rfl) (by decide) (fun K hK => ?_)
 have hS6 := blk_put hS5 1 (.slice A1 ws.length c1) rfl
 have hs_ := (blk_cell hS6 2).trans rfl
 have hf_ := blk_frozen hS6 2
 refine skip_ (w1 := ?_) (by rfl) rfl ?_ ?_
 rotate_left
 ·go_simp
  rfl
 refine hK.out _ _ ?_
 clear hK K
 refine done_ (by kernel_rfl) ?_
 have hS7 := blk_put hS6 2 (.slice B1 ns.length d1) rfl
 have hZ6 := blk_far (p := ⟨g, 1, none⟩) hZ5 (Ne.symm h2) (.slice A1 ws.length c1)
 have hZ7 := blk_far (p := ⟨g, 2, none⟩) hZ6 (Ne.symm h2) (.slice B1 ns.length d1)
 have hO6 := blk_far (p := ⟨g, 1, none⟩) hO5 (Ne.symm h1) (.slice A1 ws.length c1)
 have hO7 := blk_far (p := ⟨g, 2, none⟩) hO6 (Ne.symm h1) (.slice B1 ns.length d1)
 have hB7 : Below w.heap.size w _ := (hB5.setCell (p := ⟨g, 1, none⟩) q1 (.slice A1 ws.length c1)).setCell (p := ⟨g, 2, none⟩) q1 (.slice B1 ns.length d1)
 have hSt : St w ((w5.setCell ⟨g, 1, none⟩ (.slice A1 ws.length c1)).setCell ⟨g, 2, none⟩ (.slice B1 ns.length d1)) g e (.slice A1 ws.length c1) (.slice B1 ns.length d1) ws ns :=
  ⟨hS7, q1, Kd.R_set (Kd.R_set (Kd.R_lower hR45 hB3.size) hS5 (by decide) 1 _) hS6 (by decide) 2 _, Kd.R_set (Kd.R_set (Kd.R_lower hR5 hB4.size) hS5 (by decide) 1 _) hS6 (by decide) 2 _⟩
 clear hS2 hO2 hZ2 hB2 hA2 hN2 hS3 hO3 hZ3 hB3 hA3 hN3 hS4 hZ4 hO4 hB4 hN4 hR4 hS5 hO5 hZ5 hB5 hR45 hR5 hZ6 hO6 hS6 hA1 hN1 hS1 hO1 hZ1 hB1 hA0 hN0 hS0 hO0 hZ0 hB0 hHeld
 have hw7 : ∀ V U, (w5.setCell ⟨g, 1, none⟩ V).setCell ⟨g, 2, none⟩ U = (w5.setCell ⟨g, 1, none⟩ V).setCell ⟨g, 2, none⟩ U := fun _ _ => rfl
 clear hw7
 revert hS7 hZ7 hO7 hB7 hSt
 generalize (w5.setCell ⟨g, 1, none⟩ (.slice A1 ws.length c1)).setCell ⟨g, 2, none⟩ (.slice B1 ns.length d1) = w7
 intro hS7 hZ7 hO7 hB7 hSt
 have o0 := (blk_cell hO7 0).trans rfl
 have o1 := (blk_cell hO7 1).trans rfl
 have o2 := (blk_cell hO7 2).trans rfl
 have o3 := (blk_cell hO7 3).trans rfl
 have o4 := (blk_cell hO7 4).trans rfl
 have o5 := (blk_cell hO7 5).trans rfl
 have o6 := (blk_cell hO7 6).trans rfl
 have o7 := (blk_cell hO7 7).trans rfl
 have o8 := (blk_cell hO7 8).trans rfl
 have o9 := (blk_cell hO7 9).trans rfl
 have o10 := (blk_cell hO7 10).trans rfl
 have o11 := (blk_cell hO7 11).trans rfl
 have o12 := (blk_cell hO7 12).trans rfl
 have o13 := (blk_cell hO7 13).trans rfl
 go_wp2_with fail
 refine (change_any k g e _ _ ws ns x y id want w w7 hSt hB7 hasc.out hascn.out hl hm he hk2.out).mono ?_
 rintro r w8 ⟨rfl, hB8, hF8, hR8⟩
 have hZ8 := (hF8.2 z _ _ hZ7 (Ne.symm h2) (by decide) (by decide)).trans hZ7
 clear hS7 hZ7 hO7 hB7 hSt hF8 o0 o1 o2 o3 o4 o5 o6 o7 o8 o9 o10 o11 o12 o13
 generalize chS e ws ns k x y id want = R at *
 obtain ⟨V2, U2, hS8, _, hV8, hU8⟩ := hR8 hb
 obtain ⟨A2, c2, rfl⟩ := Kd.R_slice hV8
 obtain ⟨B2, d2, rfl⟩ := Kd.R_slice hU8
 have hc2 := Lib.hid (Kd.R_reads' hV8).2.1
 have hd2 := Lib.hid (Kd.R_reads' hU8).2.1
 have b1 : (R.2.2.2 != 0) = false := by rw [hb]; rfl
 have hb' := Lib.hid hb
 clear hb hR8
 go_wp2_with fail
 have hS8 := blk_drew hS8
 refine start_ (n := 10) (S := fun w' => w'.cell? ⟨g, 1, none⟩ = some (.slice A2 R.2.1.length c2) ∧ w'.cell? ⟨g, 2, none⟩ = some (.slice B2 R.2.2.1.length d2)) (ds := [7, 9]) (upT 10 0) (by kernel_rfl) rfl (by kernel_rfl) (⟨(blk_cell hS8 1).trans rfl, (blk_cell hS8 2).trans rfl⟩) (fun hHeld => ?_)
 refine pu 30 (v := ?_) (a' := ?_) rfl rfl (by kernel_rfl) (fun _ _ _ h => h) (Or.inl ⟨by rfl, ?_⟩) ?_ ?_; rotate_left; (·intro w'; go_simp; with_reducible rfl); rotate_left; (·simp only [Act.put, List.setIfInBounds_toArray, List.set_cons_zero, List.set_cons_succ, i64_w, i32_w, Nat.reduceAdd]; rfl); conv => arg 8; arg 2; simp only [Nat.reduceAdd]
 refine tu 30 (v := ?_) (a' := ?_) rfl rfl (by kernel_rfl) (fun _ _ _ h => h) (Or.inl ⟨by rfl, ?_⟩) hHeld ?_ ?_; rotate_left; (·rintro w' ⟨s0_, s1_⟩; go_simp; with_reducible rfl); rotate_left; (·simp only [Act.put, List.setIfInBounds_toArray, List.set_cons_zero, List.set_cons_succ, i64_w, i32_w, Nat.reduceAdd]; rfl); conv => arg 8; arg 2; simp only [Nat.reduceAdd]
 refine pure_ (i := 3) (N := some 33) (v := ?_) (a' := ?_) #[true, true, false, true, false, false, false, false, false, false] rfl rfl (by kernel_rfl) (fun _ _ _ h => h) (Or.inl ⟨by rfl, ?_⟩) ?_ ?_; rotate_left; (·intro w'; go_simp; with_reducible rfl); rotate_left; (·simp only [Act.put, List.setIfInBounds_toArray, List.set_cons_zero, List.set_cons_succ, i64_w, i32_w, Nat.reduceAdd]; rfl)
 refine take_ (i := 4) (N := some 34) (v := ?_) (a' := ?_) #[true, true, false, true, true, false, false, false, false, false] rfl rfl (by kernel_rfl) (fun _ _ _ h => h) (Or.inl ⟨by rfl, ?_⟩) hHeld ?_ ?_; rotate_left; (·rintro w' ⟨s0_, s1_⟩; go_simp; with_reducible rfl); rotate_left; (·simp only [Act.put, List.setIfInBounds_toArray, List.set_cons_zero, List.set_cons_succ, i64_w, i32_w, Nat.reduceAdd]; rfl)
 refine one_ (i := 2) (N := some 32) (upT 10 5) rfl rfl (by kernel_rfl) (by decide) (fun K hK => ?_)
 refine goes_ Tryz.func33 (by kernel_rfl) rfl #[.slice A2 R.2.1.length c2] (by rfl) rfl rfl (by (try simp only [List.map_toArray, List.map_cons, List.map_nil]); rfl) ?_
 refine (ClW.clip A2 R.2.1.length c2 _ hc2.out).mono ?_
 rintro e9 w9 ⟨rfl, rfl⟩
 refine ⟨_, rfl, ?_⟩
 refine hK.out _ _ ⟨(blk_cell hS8 1).trans rfl, (blk_cell hS8 2).trans rfl⟩ (fun hHeld => ?_)
 clear hK K
 refine norm_ (a' := ?_) ?_ ?_
 rotate_left
 ·show Act.put _ (some 32) _ = _
  simp only [Act.put, List.setIfInBounds_toArray, List.set_cons_zero, List.set_cons_succ, i64_w, i32_w, Nat.reduceAdd]
  rfl
 refine one_ (i := 5) (N := some 35) (upT 10 6) rfl rfl (by kernel_rfl) (by decide) (fun K hK => ?_)
 refine goes_ Tryz.func34 (by kernel_rfl) rfl #[.slice B2 R.2.2.1.length d2] (by rfl) rfl rfl (by (try simp only [List.map_toArray, List.map_cons, List.map_nil]); rfl) ?_
 refine (ClN.clip B2 R.2.2.1.length d2 _ hd2.out).mono ?_
 rintro e10 w10 ⟨rfl, rfl⟩
 refine ⟨_, rfl, ?_⟩
 refine hK.out _ _ ⟨(blk_cell hS8 1).trans rfl, (blk_cell hS8 2).trans rfl⟩ (fun hHeld => ?_)
 clear hK K
 refine norm_ (a' := ?_) ?_ ?_
 rotate_left
 ·show Act.put _ (some 35) _ = _
  simp only [Act.put, List.setIfInBounds_toArray, List.set_cons_zero, List.set_cons_succ, i64_w, i32_w, Nat.reduceAdd]
  rfl
 refine pu 30 (v := ?_) (a' := ?_) rfl rfl (by kernel_rfl) (fun _ _ _ h => h) (Or.inl ⟨by rfl, ?_⟩) ?_ ?_; rotate_left; (·intro w'; go_simp; with_reducible rfl); rotate_left; (·simp only [Act.put, List.setIfInBounds_toArray, List.set_cons_zero, List.set_cons_succ, i64_w, i32_w, Nat.reduceAdd]; rfl); conv => arg 8; arg 2; simp only [Nat.reduceAdd]
 refine last_ (i := 7) (N := none) (upT 10 8) rfl rfl (by kernel_rfl) (by decide) (fun K hK => ?_)
 have hs_ := (blk_cell hS8 1).trans rfl
 have hf_ := blk_frozen hS8 1
 refine skip_ (w1 := ?_) (by rfl) rfl ?_ ?_
 rotate_left
 ·go_simp
  rfl
 refine hK.out _ _ ?_
 clear hK K
 refine pu 29 (v := ?_) (a' := ?_) rfl rfl (by kernel_rfl) (fun _ _ _ h => h) (Or.inl ⟨by rfl, ?_⟩) ?_ ?_; rotate_left; (·intro w'; go_simp; with_reducible rfl); rotate_left; (·simp only [Act.put, List.setIfInBounds_toArray, List.set_cons_zero, List.set_cons_succ, i64_w, i32_w, Nat.reduceAdd]; rfl); conv => arg 8; arg 2; simp only [Nat.reduceAdd]
 refine last_ (i := 9) (N := none) (upT 10 10) rfl rfl (by kernel_rfl) (by decide) (fun K hK => ?_)
 have hS9 := blk_put hS8 1 (.slice A2 R.2.1.length R.2.1.length) rfl
 have hs_ : w8.cell? ⟨g, 2, none⟩ = some (.slice B2 R.2.2.1.length d2) := (blk_cell hS8 2).trans rfl
 have hf_ : w8.frozen? ⟨g, 2, none⟩ = false := blk_frozen hS8 2
 refine skip_ (w1 := ?_) (by rfl) rfl ?_ ?_
 rotate_left
 ·go_simp
  rfl
 refine hK.out _ _ ?_
 clear hK K
 refine done_ (by kernel_rfl) ?_
 have hS10 : (((w8.setCell ⟨g, 1, none⟩ (.slice A2 R.2.1.length R.2.1.length)).setCell ⟨g, 2, none⟩ (.slice B2 R.2.2.1.length R.2.2.1.length)).drew).heap[g]? = some (.cells #[.int .i64 R.1, .slice A2 R.2.1.length R.2.1.length, .slice B2 R.2.2.1.length R.2.2.1.length] 27 (0, 0)) := blk_put hS9 2 (.slice B2 R.2.2.1.length R.2.2.1.length) rfl
 have hZ9 := blk_far (p := ⟨g, 1, none⟩) (blk_drew hZ8) (Ne.symm h2) (.slice A2 R.2.1.length R.2.1.length)
 have hZ10 : (((w8.setCell ⟨g, 1, none⟩ (.slice A2 R.2.1.length R.2.1.length)).setCell ⟨g, 2, none⟩ (.slice B2 R.2.2.1.length R.2.2.1.length)).drew).heap[z]? = _ := blk_far (p := ⟨g, 2, none⟩) hZ9 (Ne.symm h2) (.slice B2 R.2.2.1.length R.2.2.1.length)
 have hV10 : k32.R 32 (((w8.setCell ⟨g, 1, none⟩ (.slice A2 R.2.1.length R.2.1.length)).setCell ⟨g, 2, none⟩ (.slice B2 R.2.2.1.length R.2.2.1.length)).drew) w.heap.size (fun _ => True) (.slice A2 R.2.1.length c2) R.2.1 := Kd.R_set (Kd.R_set (Kd.R_drew hV8) hS8 (by decide) 1 (.slice A2 R.2.1.length R.2.1.length)) hS9 (by decide) 2 (.slice B2 R.2.2.1.length R.2.2.1.length)
 have hU10 : k34.R 34 (((w8.setCell ⟨g, 1, none⟩ (.slice A2 R.2.1.length R.2.1.length)).setCell ⟨g, 2, none⟩ (.slice B2 R.2.2.1.length R.2.2.1.length)).drew) w.heap.size (fun _ => True) (.slice B2 R.2.2.1.length d2) R.2.2.1 := Kd.R_set (Kd.R_set (Kd.R_drew hU8) hS8 (by decide) 1 (.slice A2 R.2.1.length R.2.1.length)) hS9 (by decide) 2 (.slice B2 R.2.2.1.length R.2.2.1.length)
 have hB10 : Below w.heap.size w (((w8.setCell ⟨g, 1, none⟩ (.slice A2 R.2.1.length R.2.1.length)).setCell ⟨g, 2, none⟩ (.slice B2 R.2.2.1.length R.2.2.1.length)).drew) := ((below_drew hB8).setCell (p := ⟨g, 1, none⟩) q1 (.slice A2 R.2.1.length R.2.1.length)).setCell (p := ⟨g, 2, none⟩) q1 (.slice B2 R.2.2.1.length R.2.2.1.length)
 clear hZ9 hS9 hZ8 hS8 hV8 hU8 hB8 hHeld
 revert hS10 hZ10 hV10 hU10 hB10
 generalize ((w8.setCell ⟨g, 1, none⟩ (.slice A2 R.2.1.length R.2.1.length)).setCell ⟨g, 2, none⟩ (.slice B2 R.2.2.1.length R.2.2.1.length)).drew = w10
 intro hS10 hZ10 hV10 hU10 hB10
 have s0 := (blk_cell hS10 0).trans rfl
 have s1 := (blk_cell hS10 1).trans rfl
 have s2 := (blk_cell hS10 2).trans rfl
 have z0 := (blk_cell hZ10 0).trans rfl
 have z1 := (blk_cell hZ10 1).trans rfl
 have z2 := (blk_cell hZ10 2).trans rfl
 have y0 := blk_frozen hZ10 0
 have y1 := blk_frozen hZ10 1
 have y2 := blk_frozen hZ10 2
 obtain ⟨hZ11, hG11⟩ := put3 (.int .i64 R.1) (.slice A2 R.2.1.length R.2.1.length) (.slice B2 R.2.2.1.length R.2.2.1.length) hZ10
 replace hZ11 := Lib.hid hZ11
 replace hG11 := Lib.hid hG11
 go_wp2_with fail
 refine bodyPost_ret (results_ct rfl _ _ z 27 _ (0, 0) _ rfl hZ11.out Tryz.underlying27 rfl (by kernel_rfl)) rfl ?_
 refine ⟨A2, B2, ?_, ⟨c2, R_put3 hV10 hZ10 (by decide) _ _ _⟩, ⟨d2, R_put3 hU10 hZ10 (by decide) _ _ _⟩, hB10.grown hG11.out hB10.size (fun k e => by injection e with e; omega)⟩
 rw [hb'.out]; rfl
set_option maxHeartbeats 8000000 in
set_option maxRecDepth 100000 in
theorem apply_any (e : Int) (A B : Option Addr) (c d : Nat) (ws : List W) (ns : List N) (k : Int) (x : W) (y : N) (id : ByteArray) (want : Int) (w : World) (hA : Kd.C k32 w A ws.length ws) (hc : ws.length ≤ c) (hN : Kd.C k34 w B ns.length ns) (hd : ns.length ≤ d) (hs : Small ws ns) (hx : x.f5.size < 4294967281) (hy : y.f3.size < 4294967281)  (hf : rightS e ws ns = true ∧ rightO k x y id want = true) (hk2 : Hid (k = 1 ∨ k = 2 ∧ FiW.has ws id = false)) :
 Calls Tryz.prog 12 #[stV e A ws.length c B ns.length d, opV k x y id want] w (ApPost w (applyS e ws ns k x y id want)) := by
 unfold applyS
 rw [if_pos hf]
 by_cases hb : (chS e ws ns k x y id want).2.2.2 = 0
 ·rw [if_pos hb]
  exact apply_good e A B c d ws ns k x y id want w hA hc hN hd hs hx hy hf.1 hf.2 hb hk2
 ·rw [if_neg hb]
  exact apply_bad e A B c d ws ns k x y id want w hA hc hN hd hs hx hy hf.1 hf.2 hb hk2
end Go.Proofs.YtldlkbjbfgieeaaGreatDoor.Ap
