/- The document's Apply. -/
/- thin -/
import Derived.Test.YtldlkbjbfgieeaaGreatDoorSmW
import Derived.Test.YtldlkbjbfgieeaaGreatDoorMo
import Derived.Test.YtldlkbjbfgieeaaGreatDoorRo
import Derived.Test.YtldlkbjbfgieeaaGreatDoorSu
import Derived.Test.YtldlkbjbfgieeaaGreatDoorCy
namespace Go.Proofs.YtldlkbjbfgieeaaGreatDoor.Ra
set_option linter.unusedVariables false
set_option linter.unusedSimpArgs false
open Go.RowKit Go.Proofs.YtldlkbjbfgieeaaGreatDoorW.PrintWords Go.Proofs.YtldlkbjbfgieeaaGreatDoorW.PrintLast Mo Q Rw Cb Rq Ch Ap Go.Proofs.YtldlkbjbfgieeaaGreatDoor.St Rx Ft Ro
open Go.Proofs.YtldlkbjbfgieeaaGreatDoor.Ri (rightS rightO stV Small)
def RaPost (w : World) (r : Int × List W × List N × Int) (e : Ending) (w' : World) : Prop := ∃ V U, e = .returned (.tuple #[.agg #[.int .i64 r.1, V, U], .int .i64 r.2.2.2]) ∧ k32.R 32 w' w.heap.size (fun _ => True) V r.2.1 ∧ k34.R 34 w' w.heap.size (fun _ => True) U r.2.2.1 ∧ Below w.heap.size w w'
/-- between the steps -/
def Rs (w w' : World) (b2 b3 b4 : Nat) (e : Int) (V U : Value) (ws : List W) (ns : List N) (k : Int) (x : W) (y : N) (id : ByteArray) (want : Int) : Prop :=
 w'.heap[b2]? = some (.cells #[.int .i64 e, V, U] 27 (0, 0)) ∧ w'.heap[b3]? = some (opC' k x y id want) ∧ w'.heap[b4]? = some (.cells #[.int .i64 0, .slice none 0 0, .slice none 0 0] 27 (0, 0)) ∧ k32.R 32 w' w.heap.size (fun _ => True) V ws ∧ k34.R 34 w' w.heap.size (fun _ => True) U ns ∧ Below w.heap.size w w'
theorem Rs.below {w w' w2 : World} {b2 b3 b4 : Nat} {e : Int} {V U : Value} {ws : List W} {ns : List N} {k : Int} {x : W} {y : N} {id : ByteArray} {want : Int} (h : Rs w w' b2 b3 b4 e V U ws ns k x y id want) (hb : Below w'.heap.size w' w2) : Rs w w2 b2 b3 b4 e V U ws ns k x y id want :=
 ⟨blk_below h.1 hb, blk_below h.2.1 hb, blk_below h.2.2.1 hb, Kd.R_below h.2.2.2.1 hb, Kd.R_below h.2.2.2.2.1 hb, below_then h.2.2.2.2.2 h.2.2.2.2.2.size hb⟩
theorem Rs.set0 {w w' : World} {b2 b3 b4 : Nat} {e : Int} {V U : Value} {ws : List W} {ns : List N} {k : Int} {x : W} {y : N} {id : ByteArray} {want : Int} (h : Rs w w' b2 b3 b4 e V U ws ns k x y id want) (n3 : b2 ≠ b3) (n4 : b2 ≠ b4) (hge : w.heap.size ≤ b2) (e' : Int) : Rs w (w'.setCell ⟨b2, 0, none⟩ (.int .i64 e')) b2 b3 b4 e' V U ws ns k x y id want :=
 ⟨blk_put h.1 0 _ rfl, blk_far (p := ⟨b2, 0, none⟩) h.2.1 n3.symm _, blk_far (p := ⟨b2, 0, none⟩) h.2.2.1 n4.symm _, Kd.R_set h.2.2.2.1 h.1 (by decide) 0 _, Kd.R_set h.2.2.2.2.1 h.1 (by decide) 0 _, h.2.2.2.2.2.setCell (p := ⟨b2, 0, none⟩) hge _⟩
theorem Rs.rowW {w w' w1 : World} {b2 b3 b4 q n c : Nat} {e : Int} {U : Value} {ws ws' : List W} {ns : List N} {k : Int} {x : W} {y : N} {id : ByteArray} {want : Int} (h : Rs w w' b2 b3 b4 e (.slice (some ⟨q, 0, none⟩) n c) U ws ns k x y id want) (hR : k32.R 32 w1 w.heap.size (fun _ => True) (.slice (some ⟨q, 0, none⟩) n c) ws') (hG : w'.grownBy w1 (some q)) : Rs w w1 b2 b3 b4 e (.slice (some ⟨q, 0, none⟩) n c) U ws' ns k x y id want := by
 have hRm := h.2.2.2.1
 have ne : ∀ {b : Nat} {cs : Array Value} {t : Nat}, w'.heap[b]? = some (.cells cs t (0, 0)) → 32 ≠ t → some b ≠ some q := fun hb ht e => Kd.R_ne hRm hb ht (by rw [e]; rfl)
 exact ⟨blk_grown h.1 hG (ne h.1 (by decide)), blk_grown h.2.1 hG (ne h.2.1 (by decide)), blk_grown h.2.2.1 hG (ne h.2.2.1 (by decide)), hR, Kd.R_over h.2.2.2.2.1 hRm (by decide) hG, h.2.2.2.2.2.grown hG h.2.2.2.2.2.size (own_base (InW.R_iff.1 hRm).2)⟩
theorem Rs.rowN {w w' w1 : World} {b2 b3 b4 q n c : Nat} {e : Int} {V : Value} {ws : List W} {ns ns' : List N} {k : Int} {x : W} {y : N} {id : ByteArray} {want : Int} (h : Rs w w' b2 b3 b4 e V (.slice (some ⟨q, 0, none⟩) n c) ws ns k x y id want) (hR : k34.R 34 w1 w.heap.size (fun _ => True) (.slice (some ⟨q, 0, none⟩) n c) ns') (hG : w'.grownBy w1 (some q)) : Rs w w1 b2 b3 b4 e V (.slice (some ⟨q, 0, none⟩) n c) ws ns' k x y id want := by
 have hRm := h.2.2.2.2.1
 have ne : ∀ {b : Nat} {cs : Array Value} {t : Nat}, w'.heap[b]? = some (.cells cs t (0, 0)) → 34 ≠ t → some b ≠ some q := fun hb ht e => Kd.R_ne hRm hb ht (by rw [e]; rfl)
 exact ⟨blk_grown h.1 hG (ne h.1 (by decide)), blk_grown h.2.1 hG (ne h.2.1 (by decide)), blk_grown h.2.2.1 hG (ne h.2.2.1 (by decide)), Kd.R_over h.2.2.2.1 hRm (by decide) hG, hR, h.2.2.2.2.2.grown hG h.2.2.2.2.2.size (own_base (InN.R_iff.1 hRm).2)⟩
theorem put_nilW {l : List W} {x : W} : (PuW.putS l x).2 ≠ 0 → (PuW.putS l x).1 = [] := by
 unfold PuW.putS; split
 ·exact fun _ => rfl
 ·split
  ·exact fun _ => rfl
  ·exact fun h => absurd rfl h
theorem put_nilN {l : List N} {x : N} : (PuN.putS l x).2 ≠ 0 → (PuN.putS l x).1 = [] := by
 unfold PuN.putS; split
 ·exact fun _ => rfl
 ·split
  ·exact fun _ => rfl
  ·exact fun h => absurd rfl h
theorem Rs.delW {w w' w1 : World} {b2 b3 b4 q n c n' c' : Nat} {e : Int} {U : Value} {ws ws' : List W} {ns : List N} {k : Int} {x : W} {y : N} {id : ByteArray} {want : Int} (h : Rs w w' b2 b3 b4 e (.slice (some ⟨q, 0, none⟩) n c) U ws ns k x y id want) (hR : k32.R 32 w1 w.heap.size (fun _ => True) (.slice (some ⟨q, 0, none⟩) n' c') ws') (hG : w'.grownBy w1 (some q)) (n3 : b2 ≠ b3) (n4 : b2 ≠ b4) (hge : w.heap.size ≤ b2) : Rs w (w1.setCell ⟨b2, 1, none⟩ (.slice (some ⟨q, 0, none⟩) n' c')) b2 b3 b4 e (.slice (some ⟨q, 0, none⟩) n' c') U ws' ns k x y id want := by
 have hRm := h.2.2.2.1
 have ne : ∀ {b : Nat} {cs : Array Value} {t : Nat}, w'.heap[b]? = some (.cells cs t (0, 0)) → 32 ≠ t → some b ≠ some q := fun hb ht e => Kd.R_ne hRm hb ht (by rw [e]; rfl)
 have g2 := blk_grown h.1 hG (ne h.1 (by decide))
 exact ⟨blk_put g2 1 _ rfl, blk_far (p := ⟨b2, 1, none⟩) (blk_grown h.2.1 hG (ne h.2.1 (by decide))) n3.symm _, blk_far (p := ⟨b2, 1, none⟩) (blk_grown h.2.2.1 hG (ne h.2.2.1 (by decide))) n4.symm _, Kd.R_set hR g2 (by decide) 1 _, Kd.R_set (Kd.R_over h.2.2.2.2.1 hRm (by decide) hG) g2 (by decide) 1 _, (h.2.2.2.2.2.grown hG h.2.2.2.2.2.size (own_base (InW.R_iff.1 hRm).2)).setCell (p := ⟨b2, 1, none⟩) hge _⟩
theorem Rs.delN {w w' w1 : World} {b2 b3 b4 q n c n' c' : Nat} {e : Int} {V : Value} {ws : List W} {ns ns' : List N} {k : Int} {x : W} {y : N} {id : ByteArray} {want : Int} (h : Rs w w' b2 b3 b4 e V (.slice (some ⟨q, 0, none⟩) n c) ws ns k x y id want) (hR : k34.R 34 w1 w.heap.size (fun _ => True) (.slice (some ⟨q, 0, none⟩) n' c') ns') (hG : w'.grownBy w1 (some q)) (n3 : b2 ≠ b3) (n4 : b2 ≠ b4) (hge : w.heap.size ≤ b2) : Rs w (w1.setCell ⟨b2, 2, none⟩ (.slice (some ⟨q, 0, none⟩) n' c')) b2 b3 b4 e V (.slice (some ⟨q, 0, none⟩) n' c') ws ns' k x y id want := by
 have hRm := h.2.2.2.2.1
 have ne : ∀ {b : Nat} {cs : Array Value} {t : Nat}, w'.heap[b]? = some (.cells cs t (0, 0)) → 34 ≠ t → some b ≠ some q := fun hb ht e => Kd.R_ne hRm hb ht (by rw [e]; rfl)
 have g2 := blk_grown h.1 hG (ne h.1 (by decide))
 exact ⟨blk_put g2 2 _ rfl, blk_far (p := ⟨b2, 2, none⟩) (blk_grown h.2.1 hG (ne h.2.1 (by decide))) n3.symm _, blk_far (p := ⟨b2, 2, none⟩) (blk_grown h.2.2.1 hG (ne h.2.2.1 (by decide))) n4.symm _, Kd.R_set (Kd.R_over h.2.2.2.1 hRm (by decide) hG) g2 (by decide) 2 _, Kd.R_set hR g2 (by decide) 2 _, (h.2.2.2.2.2.grown hG h.2.2.2.2.2.size (own_base (InN.R_iff.1 hRm).2)).setCell (p := ⟨b2, 2, none⟩) hge _⟩
set_option maxHeartbeats 8000000 in
set_option maxRecDepth 100000 in
theorem rapply_bad (e : Int) (A B : Option Addr) (c d : Nat) (ws : List W) (ns : List N) (k : Int) (x : W) (y : N) (id : ByteArray) (want : Int) (w : World) (hA : Kd.C k32 w A ws.length ws) (hc : ws.length ≤ c) (hN : Kd.C k34 w B ns.length ns) (hd : ns.length ≤ d) (hs : Small ws ns) (hx : x.f5.size < 4294967281) (hy : y.f3.size < 4294967281) (b1 b2_ : Bool) (e1 : rightS e ws ns = b1) (e2 : rightO k x y id want = b2_) (hf : (b1 && b2_) = false) :
 Calls Tryz.prog 18 #[stV e A ws.length c B ns.length d, opV k x y id want] w (RaPost w (0, [], [], 120)) := by
 have hB := below_alloc (below_alloc (below_alloc (Below.refl w.heap.size w) (stC e A ws.length c B ns.length d)) (opC k x y id want)) stZ
 have h2 := blk_alloc (blk_alloc (blk_new w (stC e A ws.length c B ns.length d)) (opC k x y id want)) stZ
 have h3 := blk_alloc (blk_new (w.alloc (stC e A ws.length c B ns.length d)) (opC k x y id want)) stZ
 have h4 := blk_new ((w.alloc (stC e A ws.length c B ns.length d)).alloc (opC k x y id want)) stZ
 obtain ⟨b2, hg⟩ : ∃ g, g = w.heap.size := ⟨_, rfl⟩
 obtain ⟨b3, ho⟩ : ∃ o, o = w.heap.size + 1 := ⟨_, rfl⟩
 obtain ⟨b4, hz⟩ : ∃ z, z = w.heap.size + 1 + 1 := ⟨_, rfl⟩
 have q4 : w.heap.size ≤ b4 := by omega
 have q2 : w.heap.size ≤ b2 := by omega
 have n24 : b2 ≠ b4 := by omega
 rw [← hg] at h2
 rw [show (w.alloc (stC e A ws.length c B ns.length d)).heap.size = b3 by simp [ho]] at h3
 rw [show ((w.alloc (stC e A ws.length c B ns.length d)).alloc (opC k x y id want)).heap.size = b4 by simp [hz]] at h4
 have hg' := Lib.hid hg
 have ho' := Lib.hid ho
 have hz' := Lib.hid hz
 clear hg ho hz
 go_enter Tryz.func18, Tryz.ntmps18
 go_wp2_with fail
 try simp only [Nat.add_assoc] at hz'
 rw [← hz'.out, ← ho'.out, ← hg'.out]
 revert hB; revert h2; revert h3; revert h4
 generalize ((w.alloc (stC e A ws.length c B ns.length d)).alloc (opC k x y id want)).alloc stZ = wa
 intro h4 h3 h2 hB
 refine (rright_any e A B c d ws ns wa (Kd.C_below hA hB) hc (Kd.C_below hN hB) hd hs).mono ?_
 rintro e' w1 ⟨rfl, hb1⟩
 rw [e1]
 replace h2 := blk_below h2 hb1
 replace h3 := blk_below h3 hb1
 replace h4 := blk_below h4 hb1
 replace hB := below_then hB hB.size hb1
 clear hb1
 have o0 := (blk_cell h3 0).trans rfl
 have o1 := (blk_cell h3 1).trans rfl
 have o2 := (blk_cell h3 2).trans rfl
 have o3 := (blk_cell h3 3).trans rfl
 have o4 := (blk_cell h3 4).trans rfl
 have o5 := (blk_cell h3 5).trans rfl
 have o6 := (blk_cell h3 6).trans rfl
 have o7 := (blk_cell h3 7).trans rfl
 have o8 := (blk_cell h3 8).trans rfl
 have o9 := (blk_cell h3 9).trans rfl
 have o10 := (blk_cell h3 10).trans rfl
 have o11 := (blk_cell h3 11).trans rfl
 have o12 := (blk_cell h3 12).trans rfl
 have o13 := (blk_cell h3 13).trans rfl
 go_wp2_with fail
 refine (rop_any k x y id want w1 hx hy).mono ?_
 rintro e' w2 ⟨rfl, hb2⟩
 rw [e2]
 clear o0 o1 o2 o3 o4 o5 o6 o7 o8 o9 o10 o11 o12 o13
 replace h4 := blk_below h4 hb2
 replace hB := below_then hB hB.size hb2
 have z0 := (blk_cell h4 0).trans rfl
 have z1 := (blk_cell h4 1).trans rfl
 have z2 := (blk_cell h4 2).trans rfl
 have y0 := blk_frozen h4 0
 have y1 := blk_frozen h4 1
 have y2 := blk_frozen h4 2
 obtain ⟨hZ9, hG9⟩ := put3 (.int .i64 0) (.slice none 0 0) (.slice none 0 0) h4
 replace hZ9 := Lib.hid hZ9
 replace hG9 := Lib.hid hG9
 clear e1 e2
 cases b1 with
 | true =>
  cases b2_ with
  | true => cases hf
  | false =>
   go_wp2_with fail
   refine bodyPost_ret (results_ct rfl _ _ b4 27 _ (0, 0) _ rfl hZ9.out Tryz.underlying27 rfl (by kernel_rfl)) rfl ?_
   exact ⟨_, _, rfl, Kd.R_nil _ _ _ _ _, Kd.R_nil _ _ _ _ _, hB.grown hG9.out hB.size (fun k e => by injection e with e; omega)⟩
 | false =>
  go_wp2_with fail
  refine bodyPost_ret (results_ct rfl _ _ b4 27 _ (0, 0) _ rfl hZ9.out Tryz.underlying27 rfl (by kernel_rfl)) rfl ?_
  exact ⟨_, _, rfl, Kd.R_nil _ _ _ _ _, Kd.R_nil _ _ _ _ _, hB.grown hG9.out hB.size (fun k e => by injection e with e; omega)⟩
set_option maxHeartbeats 8000000 in
set_option maxRecDepth 100000 in
theorem rapply_good (e : Int) (A B : Option Addr) (c d : Nat) (ws : List W) (ns : List N) (k : Int) (x : W) (y : N) (id : ByteArray) (want : Int) (w : World) (hA : Kd.C k32 w A ws.length ws) (hc : ws.length ≤ c) (hN : Kd.C k34 w B ns.length ns) (hd : ns.length ≤ d) (hs : Small ws ns) (hx : x.f5.size < 4294967281) (hy : y.f3.size < 4294967281) (e1 : rightS e ws ns = true) (e2 : rightO k x y id want = true) :
 Calls Tryz.prog 18 #[stV e A ws.length c B ns.length d, opV k x y id want] w (RaPost w (if (chS e ws ns k x y id want).2.2.2 = 0 then chS e ws ns k x y id want else (0, [], [], (chS e ws ns k x y id want).2.2.2))) := by
 have hri := Su.rightS_iff.1 e1
 obtain ⟨r, hr⟩ : ∃ r, r = (if (chS e ws ns k x y id want).2.2.2 = 0 then chS e ws ns k x y id want else (0, [], [], (chS e ws ns k x y id want).2.2.2)) := ⟨_, rfl⟩
 rw [← hr]
 replace hr := Lib.hid hr
 have hB := below_alloc (below_alloc (below_alloc (Below.refl w.heap.size w) (stC e A ws.length c B ns.length d)) (opC k x y id want)) stZ
 have h2 := blk_alloc (blk_alloc (blk_new w (stC e A ws.length c B ns.length d)) (opC k x y id want)) stZ
 have h3 := blk_alloc (blk_new (w.alloc (stC e A ws.length c B ns.length d)) (opC k x y id want)) stZ
 have h4 := blk_new ((w.alloc (stC e A ws.length c B ns.length d)).alloc (opC k x y id want)) stZ
 obtain ⟨b2, hg⟩ : ∃ g, g = w.heap.size := ⟨_, rfl⟩
 obtain ⟨b3, ho⟩ : ∃ o, o = w.heap.size + 1 := ⟨_, rfl⟩
 obtain ⟨b4, hz⟩ : ∃ z, z = w.heap.size + 1 + 1 := ⟨_, rfl⟩
 have q4 : w.heap.size ≤ b4 := by omega
 have q2 : w.heap.size ≤ b2 := by omega
 have n24 : b2 ≠ b4 := by omega
 rw [← hg] at h2
 rw [show (w.alloc (stC e A ws.length c B ns.length d)).heap.size = b3 by simp [ho]] at h3
 rw [show ((w.alloc (stC e A ws.length c B ns.length d)).alloc (opC k x y id want)).heap.size = b4 by simp [hz]] at h4
 have hg' := Lib.hid hg
 have ho' := Lib.hid ho
 have hz' := Lib.hid hz
 clear hg ho hz
 go_enter Tryz.func18, Tryz.ntmps18
 go_wp2_with fail
 try simp only [Nat.add_assoc] at hz'
 rw [← hz'.out, ← ho'.out, ← hg'.out]
 revert hB; revert h2; revert h3; revert h4
 generalize ((w.alloc (stC e A ws.length c B ns.length d)).alloc (opC k x y id want)).alloc stZ = wa
 intro h4 h3 h2 hB
 refine (rright_any e A B c d ws ns wa (Kd.C_below hA hB) hc (Kd.C_below hN hB) hd hs).mono ?_
 rintro e' w1 ⟨rfl, hb1⟩
 rw [e1]
 replace h2 := blk_below h2 hb1
 replace h3 := blk_below h3 hb1
 replace h4 := blk_below h4 hb1
 replace hB := below_then hB hB.size hb1
 clear hb1
 have o0 := (blk_cell h3 0).trans rfl
 have o1 := (blk_cell h3 1).trans rfl
 have o2 := (blk_cell h3 2).trans rfl
 have o3 := (blk_cell h3 3).trans rfl
 have o4 := (blk_cell h3 4).trans rfl
 have o5 := (blk_cell h3 5).trans rfl
 have o6 := (blk_cell h3 6).trans rfl
 have o7 := (blk_cell h3 7).trans rfl
 have o8 := (blk_cell h3 8).trans rfl
 have o9 := (blk_cell h3 9).trans rfl
 have o10 := (blk_cell h3 10).trans rfl
 have o11 := (blk_cell h3 11).trans rfl
 have o12 := (blk_cell h3 12).trans rfl
 have o13 := (blk_cell h3 13).trans rfl
 go_wp2_with fail
 refine (rop_any k x y id want w1 hx hy).mono ?_
 rintro e' w2 ⟨rfl, hb2⟩
 rw [e2]
 have e2' := e2
 clear o0 o1 o2 o3 o4 o5 o6 o7 o8 o9 o10 o11 o12 o13
 replace h2 := blk_below h2 hb2
 replace h3 := blk_below h3 hb2
 replace h4 := blk_below h4 hb2
 replace hB := below_then hB hB.size hb2
 clear hb2 e1 e2
 have s0 := (blk_cell h2 0).trans rfl
 have s1 := (blk_cell h2 1).trans rfl
 have s2 := (blk_cell h2 2).trans rfl
 go_wp2_with fail
 refine (Cy.copied_any e A B c d ws ns w2 (Kd.C_below hA hB) (Kd.C_below hN hB) (by have := hri.2.1; omega) (by have := hri.2.2.1; omega)).mono ?_
 rintro e' w3 ⟨V, U, rfl, hR1, hR2, hb3⟩
 have hR1 := Kd.R_lower hR1 hB.size
 have hR2 := Kd.R_lower hR2 hB.size
 replace h2 := blk_below h2 hb3
 replace h3 := blk_below h3 hb3
 replace h4 := blk_below h4 hb3
 replace hB := below_then hB hB.size hb3
 clear hb3 s0 s1 s2 hA hN
 obtain ⟨A1, c1, rfl⟩ := Kd.R_slice hR1
 obtain ⟨B1, d1, rfl⟩ := Kd.R_slice hR2
 have s0 := (blk_cell h2 0).trans rfl
 have s1 := (blk_cell h2 1).trans rfl
 have s2 := (blk_cell h2 2).trans rfl
 have t0 := blk_frozen h2 0
 have t1 := blk_frozen h2 1
 have t2 := blk_frozen h2 2
 have n23 := ne_of h2 h3 (by decide)
 have n23' := Lib.hid n23
 obtain ⟨g2, g9⟩ := put3 (.int .i64 e) (.slice A1 ws.length c1) (.slice B1 ns.length d1) h2
 have hS := Aside0.mk (show Rs w _ b2 b3 b4 e (.slice A1 ws.length c1) (.slice B1 ns.length d1) ws ns k x y id want from ⟨g2, (g9.block _ (blk_lt h3) (fun q => n23 (Option.some.inj q).symm)).trans h3, (g9.block _ (blk_lt h4) (fun q => n24 (Option.some.inj q).symm)).trans h4, R_put3 hR1 h2 (fun z hz => by rw [List.mem_singleton.1 hz]; decide) _ _ _, R_put3 hR2 h2 (fun z hz => by rw [List.mem_singleton.1 hz]; decide) _ _ _, hB.grown g9 hB.size (fun k e => by injection e with e; omega)⟩)
 have o12 := (blk_cell hS.out.2.1 12).trans rfl
 go_wp2_with fail
 refine (work_any e A1 B1 ws.length c1 ns.length d1 ws id _ rfl (Kd.R_reads' hS.out.2.2.2.1).2.2 hri.2.2.2.1.1 (by have := hri.2.1; omega)).mono ?_
 rintro e' w4 ⟨rfl, hb4⟩
 replace hS := Aside0.mk (hS.out.below hb4)
 clear g2 g9 s0 s1 s2 t0 t1 t2 n23 h2 h3 h4 hR1 hR2 hB o12 hb4
 have s0 := (blk_cell hS.out.1 0).trans rfl
 have s1 := (blk_cell hS.out.1 1).trans rfl
 have s2 := (blk_cell hS.out.1 2).trans rfl
 have o12 := (blk_cell hS.out.2.1 12).trans rfl
 go_wp2_with fail
 refine (node_any e A1 B1 ws.length c1 ns.length d1 ns id _ rfl (Kd.R_reads' hS.out.2.2.2.2.1).2.2 hri.2.2.2.2.1 (by have := hri.2.2.1; omega)).mono ?_
 rintro e' w5 ⟨rfl, hb5⟩
 replace hS := Aside0.mk (hS.out.below hb5)
 clear s0 s1 s2 o12 hb5
 have o0 := (blk_cell hS.out.2.1 0).trans rfl
 have o1 := (blk_cell hS.out.2.1 1).trans rfl
 have o2 := (blk_cell hS.out.2.1 2).trans rfl
 have o3 := (blk_cell hS.out.2.1 3).trans rfl
 have o4 := (blk_cell hS.out.2.1 4).trans rfl
 have o5 := (blk_cell hS.out.2.1 5).trans rfl
 have o6 := (blk_cell hS.out.2.1 6).trans rfl
 have o7 := (blk_cell hS.out.2.1 7).trans rfl
 have o8 := (blk_cell hS.out.2.1 8).trans rfl
 have o9 := (blk_cell hS.out.2.1 9).trans rfl
 have o10 := (blk_cell hS.out.2.1 10).trans rfl
 have o11 := (blk_cell hS.out.2.1 11).trans rfl
 have o12 := (blk_cell hS.out.2.1 12).trans rfl
 have o13 := (blk_cell hS.out.2.1 13).trans rfl
 have q4' := Lib.hid q4
 have q2' := Lib.hid q2
 clear q4 q2
 have hkk := op_range (k := k) (x := x) (y := y) (id := id) (want := want) e2'
 rcases (show k = 1 ∨ k = 2 ∨ k = 3 ∨ k = 4 ∨ k = 5 ∨ k = 6 ∨ k = 7 ∨ k = 8 from by omega) with rfl | rfl | rfl | rfl | rfl | rfl | rfl | rfl
 ·have hp : r = (if (PuW.putS ws x).2 = 0 then (e, (PuW.putS ws x).1, ns, (PuW.putS ws x).2) else (0, [], [], (PuW.putS ws x).2)) := hr.out
  clear hr
  have hnil := Lib.hid (put_nilW (l := ws) (x := x))
  have s0 := (blk_cell hS.out.1 0).trans rfl
  have s1 := (blk_cell hS.out.1 1).trans rfl
  have s2 := (blk_cell hS.out.1 2).trans rfl
  have hcl := SmW.submit_any e A1 B1 c1 d1 ns.length ws x w5 (Kd.R_reads' hS.out.2.2.2.1).2.2 hri.2.2.2.1.1 (by have := hri.2.1; omega)
  generalize PuW.putS ws x = pw at *
  obtain ⟨pl, pe⟩ := pw
  have hsz := Lib.hid hS.out.2.2.2.2.2.size
  by_cases he : pe = 0
  ·simp only [if_pos he] at hp hcl
   subst he
   subst hp
   go_wp2_with fail
   refine hcl.mono ?_
   rintro e' w6 ⟨V, rfl, hV, hb6⟩
   clear hcl s0 s1 s2
   replace hS := Aside0.mk (hS.out.below hb6)
   replace hV := Kd.R_lower hV hsz.out
   obtain ⟨A6, c6, rfl⟩ := Kd.R_slice hV
   have z0 := (blk_cell hS.out.2.2.1 0).trans rfl
   have z1 := (blk_cell hS.out.2.2.1 1).trans rfl
   have z2 := (blk_cell hS.out.2.2.1 2).trans rfl
   have y0 := blk_frozen hS.out.2.2.1 0
   have y1 := blk_frozen hS.out.2.2.1 1
   have y2 := blk_frozen hS.out.2.2.1 2
   obtain ⟨hZ9, hG9⟩ := put3 (.int .i64 e) (.slice A6 pl.length c6) (.slice B1 ns.length d1) hS.out.2.2.1
   replace hZ9 := Lib.hid hZ9
   replace hG9 := Lib.hid hG9
   replace hV := Aside0.mk hV
   go_wp2_with fail
   refine bodyPost_ret (results_ct rfl _ _ b4 27 _ (0, 0) _ rfl hZ9.out Tryz.underlying27 rfl (by kernel_rfl)) rfl ?_
   exact ⟨_, _, rfl, R_put3 hV.out hS.out.2.2.1 (by decide) _ _ _, R_put3 hS.out.2.2.2.2.1 hS.out.2.2.1 (by decide) _ _ _, hS.out.2.2.2.2.2.grown hG9.out hS.out.2.2.2.2.2.size (fun k e => by injection e with e; have := q4'.out; omega)⟩
  ·simp only [if_neg he] at hp hcl
   have hn2 : pl = [] := hnil.out he
   subst hn2
   replace he := Lib.hid he
   subst hp
   go_wp2_with fail
   refine hcl.mono ?_
   rintro e' w6 ⟨V, rfl, hV, hb6⟩
   clear hcl s0 s1 s2
   replace hS := Aside0.mk (hS.out.below hb6)
   replace hV := Kd.R_lower hV hsz.out
   obtain ⟨A6, c6, rfl⟩ := Kd.R_slice hV
   simp only [List.length_nil] at hV ⊢
   have z0 := (blk_cell hS.out.2.2.1 0).trans rfl
   have z1 := (blk_cell hS.out.2.2.1 1).trans rfl
   have z2 := (blk_cell hS.out.2.2.1 2).trans rfl
   have y0 := blk_frozen hS.out.2.2.1 0
   have y1 := blk_frozen hS.out.2.2.1 1
   have y2 := blk_frozen hS.out.2.2.1 2
   obtain ⟨hZ9, hG9⟩ := put3 (.int .i64 0) (.slice A6 0 c6) (.slice none 0 0) hS.out.2.2.1
   replace hZ9 := Lib.hid hZ9
   replace hG9 := Lib.hid hG9
   replace hV := Aside0.mk hV
   go_wp2_with fail
   refine bodyPost_ret (results_ct rfl _ _ b4 27 _ (0, 0) _ rfl hZ9.out Tryz.underlying27 rfl (by kernel_rfl)) rfl ?_
   exact ⟨_, _, rfl, R_put3 hV.out hS.out.2.2.1 (by decide) _ _ _, Kd.R_nil _ _ _ _ _, hS.out.2.2.2.2.2.grown hG9.out hS.out.2.2.2.2.2.size (fun k e => by injection e with e; have := q4'.out; omega)⟩
 ·cases hh : hasG (fun x : W => x.f0) z32 ws id with
  | false =>
   have hp : r = (0, [], [], 122) := hr.out.trans (by unfold chS; rw [if_neg (show ¬ (2 : Int) = 1 by decide), if_neg (show ¬ (2 : Int) = 4 by decide), if_neg (show ¬ (2 : Int) = 8 by decide), if_pos (show (2 : Int) = 2 from rfl), if_neg (show ¬ FiW.has ws id = true by rw [show FiW.has ws id = false from hh]; exact Bool.false_ne_true)]; rfl)
   clear hr
   subst hp
   rw [show ix (fun x : W => x.f0) z32 ws id = -1 from if_neg (by rw [show hasG (fun x : W => x.f0) z32 ws id = false from hh]; exact Bool.false_ne_true)]
   clear hh
   have z0 := (blk_cell hS.out.2.2.1 0).trans rfl
   have z1 := (blk_cell hS.out.2.2.1 1).trans rfl
   have z2 := (blk_cell hS.out.2.2.1 2).trans rfl
   have y0 := blk_frozen hS.out.2.2.1 0
   have y1 := blk_frozen hS.out.2.2.1 1
   have y2 := blk_frozen hS.out.2.2.1 2
   obtain ⟨hZ9, hG9⟩ := put3 (.int .i64 0) (.slice none 0 0) (.slice none 0 0) hS.out.2.2.1
   replace hZ9 := Lib.hid hZ9
   replace hG9 := Lib.hid hG9
   go_wp2_with fail
   refine bodyPost_ret (results_ct rfl _ _ b4 27 _ (0, 0) _ rfl hZ9.out Tryz.underlying27 rfl (by kernel_rfl)) rfl ?_
   exact ⟨_, _, rfl, Kd.R_nil _ _ _ _ _, Kd.R_nil _ _ _ _ _, hS.out.2.2.2.2.2.grown hG9.out hS.out.2.2.2.2.2.size (fun k e => by injection e with e; have := q4'.out; omega)⟩
  | true =>
   have hp : r = (e, ws.set (FiW.pos ws id) { ws.getD (FiW.pos ws id) z32 with f1 := want }, ns, 0) := hr.out.trans (by unfold chS; rw [if_neg (show ¬ (2 : Int) = 1 by decide), if_neg (show ¬ (2 : Int) = 4 by decide), if_neg (show ¬ (2 : Int) = 8 by decide), if_pos (show (2 : Int) = 2 from rfl), if_pos (show FiW.has ws id = true from hh)]; rfl)
   clear hr
   subst hp
   have hlt := has_lt (show FiW.has ws id = true from hh)
   rw [show ix (fun x : W => x.f0) z32 ws id = ((FiW.pos ws id : Nat) : Int) from if_pos hh]
   clear hh
   generalize FiW.pos ws id = p at *
   obtain ⟨q, rfl⟩ : ∃ q, A1 = some ⟨q, 0, none⟩ := ownW hS.out.2.2.2.1 (by omega)
   have hlc := (Kd.R_reads' hS.out.2.2.2.1).2.1
   have h8 := hri.2.1
   have i0 : decide ((p : Int) < 0) = false := decide_eq_false (by omega)
   have i1 : (0 ≤ (p : Int)) = True := eq_true (by omega)
   have i2 : ((p : Int) < (ws.length : Int)) = True := eq_true (by omega)
   obtain ⟨⟨u_, hs_⟩, hf_, hR4, hG4⟩ := setWant hS.out.2.2.2.1 hlt want
   have hT := Aside0.mk (hS.out.rowW hR4 hG4)
   clear hR4 hG4
   have s1 := (blk_cell hS.out.1 1).trans rfl
   replace hlt := Lib.hid hlt
   replace hlc := Lib.hid hlc
   have t0 := (blk_cell hT.out.1 0).trans rfl
   have t1 := (blk_cell hT.out.1 1).trans rfl
   have t2 := (blk_cell hT.out.1 2).trans rfl
   have z0 := (blk_cell hT.out.2.2.1 0).trans rfl
   have z1 := (blk_cell hT.out.2.2.1 1).trans rfl
   have z2 := (blk_cell hT.out.2.2.1 2).trans rfl
   have y0 := blk_frozen hT.out.2.2.1 0
   have y1 := blk_frozen hT.out.2.2.1 1
   have y2 := blk_frozen hT.out.2.2.1 2
   obtain ⟨hZ9, hG9⟩ := put3 (.int .i64 (e)) (.slice (some ⟨q, 0, none⟩) ws.length c1) (.slice B1 ns.length d1) hT.out.2.2.1
   replace hZ9 := Lib.hid hZ9
   replace hG9 := Lib.hid hG9
   go_wp2_with fail
   refine bodyPost_ret (results_ct rfl _ _ b4 27 _ (0, 0) _ rfl hZ9.out Tryz.underlying27 rfl (by kernel_rfl)) rfl ?_
   exact ⟨_, _, rfl, R_put3 hT.out.2.2.2.1 hT.out.2.2.1 (by decide) _ _ _, R_put3 hT.out.2.2.2.2.1 hT.out.2.2.1 (by decide) _ _ _, hT.out.2.2.2.2.2.grown hG9.out hT.out.2.2.2.2.2.size (fun k e => by injection e with e; have := q4'.out; omega)⟩
 ·cases hh : hasG (fun x : W => x.f0) z32 ws id with
  | false =>
   have hp : r = (0, [], [], 122) := hr.out.trans (by unfold chS; rw [if_neg (show ¬ (3 : Int) = 1 by decide), if_neg (show ¬ (3 : Int) = 4 by decide), if_neg (show ¬ (3 : Int) = 8 by decide), if_neg (show ¬ (3 : Int) = 2 by decide), if_pos (show (3 : Int) = 3 from rfl), if_neg (show ¬ FiW.has ws id = true by rw [show FiW.has ws id = false from hh]; exact Bool.false_ne_true)]; rfl)
   clear hr
   subst hp
   rw [show ix (fun x : W => x.f0) z32 ws id = -1 from if_neg (by rw [show hasG (fun x : W => x.f0) z32 ws id = false from hh]; exact Bool.false_ne_true)]
   clear hh
   have z0 := (blk_cell hS.out.2.2.1 0).trans rfl
   have z1 := (blk_cell hS.out.2.2.1 1).trans rfl
   have z2 := (blk_cell hS.out.2.2.1 2).trans rfl
   have y0 := blk_frozen hS.out.2.2.1 0
   have y1 := blk_frozen hS.out.2.2.1 1
   have y2 := blk_frozen hS.out.2.2.1 2
   obtain ⟨hZ9, hG9⟩ := put3 (.int .i64 0) (.slice none 0 0) (.slice none 0 0) hS.out.2.2.1
   replace hZ9 := Lib.hid hZ9
   replace hG9 := Lib.hid hG9
   go_wp2_with fail
   refine bodyPost_ret (results_ct rfl _ _ b4 27 _ (0, 0) _ rfl hZ9.out Tryz.underlying27 rfl (by kernel_rfl)) rfl ?_
   exact ⟨_, _, rfl, Kd.R_nil _ _ _ _ _, Kd.R_nil _ _ _ _ _, hS.out.2.2.2.2.2.grown hG9.out hS.out.2.2.2.2.2.size (fun k e => by injection e with e; have := q4'.out; omega)⟩
  | true =>
   have hp : r = (e, ws.take (FiW.pos ws id) ++ ws.drop (FiW.pos ws id + 1), ns, 0) := hr.out.trans (by unfold chS; rw [if_neg (show ¬ (3 : Int) = 1 by decide), if_neg (show ¬ (3 : Int) = 4 by decide), if_neg (show ¬ (3 : Int) = 8 by decide), if_neg (show ¬ (3 : Int) = 2 by decide), if_pos (show (3 : Int) = 3 from rfl), if_pos (show FiW.has ws id = true from hh)]; rfl)
   clear hr
   subst hp
   have hlt := has_lt (show FiW.has ws id = true from hh)
   rw [show ix (fun x : W => x.f0) z32 ws id = ((FiW.pos ws id : Nat) : Int) from if_pos hh]
   clear hh
   generalize FiW.pos ws id = p at *
   obtain ⟨q, rfl⟩ : ∃ q, A1 = some ⟨q, 0, none⟩ := ownW hS.out.2.2.2.1 (by omega)
   have hlc := (Kd.R_reads' hS.out.2.2.2.1).2.1
   have h8 := hri.2.1
   have i0 : decide ((p : Int) < 0) = false := decide_eq_false (by omega)
   have i1 : (0 ≤ (p : Int)) = True := eq_true (by omega)
   have i2 : ((p : Int) < (ws.length : Int)) = True := eq_true (by omega)
   have j0 : decide ((0 : Int) ≤ (p : Int)) = true := decide_eq_true (by omega)
   have j1 : decide ((p : Int) ≤ (c1 : Int)) = true := decide_eq_true (by omega)
   have j2 : wrap64 ((p : Int) + 1) = (p : Int) + 1 := by unfold wrap64; omega
   have j3 : decide ((0 : Int) ≤ (p : Int) + 1) = true := decide_eq_true (by omega)
   have j4 : decide ((p : Int) + 1 ≤ (ws.length : Int)) = true := decide_eq_true (by omega)
   have j5 : decide ((ws.length : Int) ≤ (c1 : Int)) = true := decide_eq_true (by omega)
   have l1 : (p ≤ c1) = True := eq_true (by omega)
   have l3 : (0 ≤ (p : Int) + 1) = True := eq_true (by omega)
   have l4 : ((p : Int) + 1 ≤ (ws.length : Int)) = True := eq_true (by omega)
   have l5 : (ws.length ≤ c1) = True := eq_true hlc
   replace hlc := Lib.hid hlc
   have hF := hS
   clear hS
   replace hlt := Lib.hid hlt
   have s1 := (blk_cell hF.out.1 1).trans rfl
   go_wp2_with fail
   clear s1
   refine start_ (n := 12) (S := fun w' => w'.cell? ⟨b2, 1, none⟩ = some (.slice (some ⟨q, 0, none⟩) ws.length c1)) (ds := [11]) (bt 12 0) (by kernel_rfl) rfl (by kernel_rfl) ((blk_cell hF.out.1 1).trans rfl) (fun hHeld => ?_)
   replace hF := Aside0.mk (hF.out.below (below_drew (Below.refl _ _)))
   generalize w5.drew = wd at *
   refine py 0 100 (bt 12 1) rfl rfl (h := ?_)
   refine ty 1 101 (bt 12 3) rfl rfl hHeld (h := ?_)
   refine py 2 102 (bt 12 7) rfl rfl (h := ?_)
   refine py 3 103 (bt 12 15) rfl rfl (h := ?_)
   refine py 4 104 (bt 12 31) rfl rfl (h := ?_)
   refine ty 5 105 (bt 12 63) rfl rfl hHeld (h := ?_)
   refine py 6 106 (bt 12 127) rfl rfl (h := ?_)
   refine py 7 107 (bt 12 255) rfl rfl (h := ?_)
   refine py 8 108 (bt 12 511) rfl rfl (h := ?_)
   generalize hAA : (if c1 = p + 1 then some (⟨q, 0, none⟩ : Addr) else some ⟨q, (p + 1) * 6, none⟩) = AA
   replace hAA := Lib.hid hAA
   refine oe 9 109 (bt 12 1023) rfl rfl (fun K hK => ?_); refine Kd.R_delete_step k32 (w0 := w) w.heap.size (by rfl) (.tmp 103) (.tmp 108) 24 32 rfl Tryz.underlying24 (by kernel_rfl) (g := q) (n := ws.length) (c := c1) (k := p) rfl rfl ?hA3 ?hm3 hF.out.2.2.2.1 hlt.out hF.out.2.2.2.2.2 hF.out.2.2.2.2.2.size ?_
   (case hA3 => rw [← hAA.out]; show _ = if c1 = p + 1 then _ else Option.map (fun x => x.add ((p + 1) * 6)) (some (⟨q, 0, none⟩ : Addr)); simp [Addr.add])
   (case hm3 => rfl)
   intro w6 hR6 hb6 hg6
   rw [List.eraseIdx_eq_take_drop_succ] at hR6
   have g2 := blk_grown hF.out.1 hg6 (fun e => Kd.R_ne hF.out.2.2.2.1 hF.out.1 (by decide) (by rw [e]; rfl))
   refine hK.out _ _ ((blk_cell g2 1).trans rfl) (fun hHeld => ?_); clear hK K; refine ny (h := ?_)
   refine py 10 110 (bt 12 2047) rfl rfl (h := ?_)
   refine last_ (i := 11) (N := none) (bt 12 4095) rfl rfl (by kernel_rfl) (by decide) (fun K hK => ?_)
   have y6 := blk_frozen g2 1
   have z6 := (blk_cell g2 1).trans rfl
   refine sk ?_
   refine hK.out _ _ ?_
   clear hK K
   refine done_ (by kernel_rfl) ?_
   have hT := Aside0.mk (hF.out.delW hR6 hg6 n23'.out n24 q2'.out)
   clear hR6 hb6 hg6 g2 y6 z6 hF hHeld hAA j0 j1 j2 j3 j4 j5 l1 l3 l4 l5
   have s0 := (blk_cell hT.out.1 0).trans rfl
   have s1 := (blk_cell hT.out.1 1).trans rfl
   have s2 := (blk_cell hT.out.1 2).trans rfl
   have z0 := (blk_cell hT.out.2.2.1 0).trans rfl
   have z1 := (blk_cell hT.out.2.2.1 1).trans rfl
   have z2 := (blk_cell hT.out.2.2.1 2).trans rfl
   have y0 := blk_frozen hT.out.2.2.1 0
   have y1 := blk_frozen hT.out.2.2.1 1
   have y2 := blk_frozen hT.out.2.2.1 2
   obtain ⟨hZ9, hG9⟩ := put3 (.int .i64 (e)) (.slice (some ⟨q, 0, none⟩) (ws.length - 1) c1) (.slice B1 ns.length d1) hT.out.2.2.1
   replace hZ9 := Lib.hid hZ9
   replace hG9 := Lib.hid hG9
   go_wp2_with fail
   refine bodyPost_ret (results_ct rfl _ _ b4 27 _ (0, 0) _ rfl hZ9.out Tryz.underlying27 rfl (by kernel_rfl)) rfl ?_
   exact ⟨_, _, rfl, R_put3 hT.out.2.2.2.1 hT.out.2.2.1 (by decide) _ _ _, R_put3 hT.out.2.2.2.2.1 hT.out.2.2.1 (by decide) _ _ _, hT.out.2.2.2.2.2.grown hG9.out hT.out.2.2.2.2.2.size (fun k e => by injection e with e; have := q4'.out; omega)⟩
 ·have hp : r = (if (PuN.putS ns y).2 = 0 then (e, ws, (PuN.putS ns y).1, (PuN.putS ns y).2) else (0, [], [], (PuN.putS ns y).2)) := hr.out
  clear hr
  have hnil := Lib.hid (put_nilN (l := ns) (x := y))
  have s0 := (blk_cell hS.out.1 0).trans rfl
  have s1 := (blk_cell hS.out.1 1).trans rfl
  have s2 := (blk_cell hS.out.1 2).trans rfl
  have hcl := SmN.add_any e A1 B1 c1 d1 ws.length ns y w5 (Kd.R_reads' hS.out.2.2.2.2.1).2.2 hri.2.2.2.2.1 (by have := hri.2.2.1; omega)
  generalize PuN.putS ns y = pw at *
  obtain ⟨pl, pe⟩ := pw
  have hsz := Lib.hid hS.out.2.2.2.2.2.size
  by_cases he : pe = 0
  ·simp only [if_pos he] at hp hcl
   subst he
   subst hp
   go_wp2_with fail
   refine hcl.mono ?_
   rintro e' w6 ⟨V, rfl, hV, hb6⟩
   clear hcl s0 s1 s2
   replace hS := Aside0.mk (hS.out.below hb6)
   replace hV := Kd.R_lower hV hsz.out
   obtain ⟨A6, c6, rfl⟩ := Kd.R_slice hV
   have z0 := (blk_cell hS.out.2.2.1 0).trans rfl
   have z1 := (blk_cell hS.out.2.2.1 1).trans rfl
   have z2 := (blk_cell hS.out.2.2.1 2).trans rfl
   have y0 := blk_frozen hS.out.2.2.1 0
   have y1 := blk_frozen hS.out.2.2.1 1
   have y2 := blk_frozen hS.out.2.2.1 2
   obtain ⟨hZ9, hG9⟩ := put3 (.int .i64 e) (.slice A1 ws.length c1) (.slice A6 pl.length c6) hS.out.2.2.1
   replace hZ9 := Lib.hid hZ9
   replace hG9 := Lib.hid hG9
   replace hV := Aside0.mk hV
   go_wp2_with fail
   refine bodyPost_ret (results_ct rfl _ _ b4 27 _ (0, 0) _ rfl hZ9.out Tryz.underlying27 rfl (by kernel_rfl)) rfl ?_
   exact ⟨_, _, rfl, R_put3 hS.out.2.2.2.1 hS.out.2.2.1 (by decide) _ _ _, R_put3 hV.out hS.out.2.2.1 (by decide) _ _ _, hS.out.2.2.2.2.2.grown hG9.out hS.out.2.2.2.2.2.size (fun k e => by injection e with e; have := q4'.out; omega)⟩
  ·simp only [if_neg he] at hp hcl
   have hn2 : pl = [] := hnil.out he
   subst hn2
   replace he := Lib.hid he
   subst hp
   go_wp2_with fail
   refine hcl.mono ?_
   rintro e' w6 ⟨V, rfl, hV, hb6⟩
   clear hcl s0 s1 s2
   replace hS := Aside0.mk (hS.out.below hb6)
   replace hV := Kd.R_lower hV hsz.out
   obtain ⟨A6, c6, rfl⟩ := Kd.R_slice hV
   simp only [List.length_nil] at hV ⊢
   have z0 := (blk_cell hS.out.2.2.1 0).trans rfl
   have z1 := (blk_cell hS.out.2.2.1 1).trans rfl
   have z2 := (blk_cell hS.out.2.2.1 2).trans rfl
   have y0 := blk_frozen hS.out.2.2.1 0
   have y1 := blk_frozen hS.out.2.2.1 1
   have y2 := blk_frozen hS.out.2.2.1 2
   obtain ⟨hZ9, hG9⟩ := put3 (.int .i64 0) (.slice none 0 0) (.slice A6 0 c6) hS.out.2.2.1
   replace hZ9 := Lib.hid hZ9
   replace hG9 := Lib.hid hG9
   replace hV := Aside0.mk hV
   go_wp2_with fail
   refine bodyPost_ret (results_ct rfl _ _ b4 27 _ (0, 0) _ rfl hZ9.out Tryz.underlying27 rfl (by kernel_rfl)) rfl ?_
   exact ⟨_, _, rfl, Kd.R_nil _ _ _ _ _, R_put3 hV.out hS.out.2.2.1 (by decide) _ _ _, hS.out.2.2.2.2.2.grown hG9.out hS.out.2.2.2.2.2.size (fun k e => by injection e with e; have := q4'.out; omega)⟩
 ·cases hh : hasG (fun x : N => x.f0) z34 ns id with
  | false =>
   have hp : r = (0, [], [], 122) := hr.out.trans (by unfold chS; rw [if_neg (show ¬ (5 : Int) = 1 by decide), if_neg (show ¬ (5 : Int) = 4 by decide), if_neg (show ¬ (5 : Int) = 8 by decide), if_neg (show ¬ (5 : Int) = 2 by decide), if_neg (show ¬ (5 : Int) = 3 by decide), if_pos (show (5 : Int) = 5 from rfl), if_neg (show ¬ FiN.has ns id = true by rw [show FiN.has ns id = false from hh]; exact Bool.false_ne_true)]; rfl)
   clear hr
   subst hp
   rw [show ix (fun x : N => x.f0) z34 ns id = -1 from if_neg (by rw [show hasG (fun x : N => x.f0) z34 ns id = false from hh]; exact Bool.false_ne_true)]
   clear hh
   have z0 := (blk_cell hS.out.2.2.1 0).trans rfl
   have z1 := (blk_cell hS.out.2.2.1 1).trans rfl
   have z2 := (blk_cell hS.out.2.2.1 2).trans rfl
   have y0 := blk_frozen hS.out.2.2.1 0
   have y1 := blk_frozen hS.out.2.2.1 1
   have y2 := blk_frozen hS.out.2.2.1 2
   obtain ⟨hZ9, hG9⟩ := put3 (.int .i64 0) (.slice none 0 0) (.slice none 0 0) hS.out.2.2.1
   replace hZ9 := Lib.hid hZ9
   replace hG9 := Lib.hid hG9
   go_wp2_with fail
   refine bodyPost_ret (results_ct rfl _ _ b4 27 _ (0, 0) _ rfl hZ9.out Tryz.underlying27 rfl (by kernel_rfl)) rfl ?_
   exact ⟨_, _, rfl, Kd.R_nil _ _ _ _ _, Kd.R_nil _ _ _ _ _, hS.out.2.2.2.2.2.grown hG9.out hS.out.2.2.2.2.2.size (fun k e => by injection e with e; have := q4'.out; omega)⟩
  | true =>
   have hp : r = (e, ws, ns.take (FiN.pos ns id) ++ ns.drop (FiN.pos ns id + 1), 0) := hr.out.trans (by unfold chS; rw [if_neg (show ¬ (5 : Int) = 1 by decide), if_neg (show ¬ (5 : Int) = 4 by decide), if_neg (show ¬ (5 : Int) = 8 by decide), if_neg (show ¬ (5 : Int) = 2 by decide), if_neg (show ¬ (5 : Int) = 3 by decide), if_pos (show (5 : Int) = 5 from rfl), if_pos (show FiN.has ns id = true from hh)]; rfl)
   clear hr
   subst hp
   have hlt := has_ltN (show FiN.has ns id = true from hh)
   rw [show ix (fun x : N => x.f0) z34 ns id = ((FiN.pos ns id : Nat) : Int) from if_pos hh]
   clear hh
   generalize FiN.pos ns id = p at *
   obtain ⟨q, rfl⟩ : ∃ q, B1 = some ⟨q, 0, none⟩ := ownN hS.out.2.2.2.2.1 (by omega)
   have hlc := (Kd.R_reads' hS.out.2.2.2.2.1).2.1
   have h8 := hri.2.2.1
   have i0 : decide ((p : Int) < 0) = false := decide_eq_false (by omega)
   have i1 : (0 ≤ (p : Int)) = True := eq_true (by omega)
   have i2 : ((p : Int) < (ns.length : Int)) = True := eq_true (by omega)
   have j0 : decide ((0 : Int) ≤ (p : Int)) = true := decide_eq_true (by omega)
   have j1 : decide ((p : Int) ≤ (d1 : Int)) = true := decide_eq_true (by omega)
   have j2 : wrap64 ((p : Int) + 1) = (p : Int) + 1 := by unfold wrap64; omega
   have j3 : decide ((0 : Int) ≤ (p : Int) + 1) = true := decide_eq_true (by omega)
   have j4 : decide ((p : Int) + 1 ≤ (ns.length : Int)) = true := decide_eq_true (by omega)
   have j5 : decide ((ns.length : Int) ≤ (d1 : Int)) = true := decide_eq_true (by omega)
   have l1 : (p ≤ d1) = True := eq_true (by omega)
   have l3 : (0 ≤ (p : Int) + 1) = True := eq_true (by omega)
   have l4 : ((p : Int) + 1 ≤ (ns.length : Int)) = True := eq_true (by omega)
   have l5 : (ns.length ≤ d1) = True := eq_true hlc
   replace hlc := Lib.hid hlc
   have hF := hS
   clear hS
   replace hlt := Lib.hid hlt
   have s2 := (blk_cell hF.out.1 2).trans rfl
   go_wp2_with fail
   clear s2
   refine start_ (n := 12) (S := fun w' => w'.cell? ⟨b2, 2, none⟩ = some (.slice (some ⟨q, 0, none⟩) ns.length d1)) (ds := [11]) (bt 12 0) (by kernel_rfl) rfl (by kernel_rfl) ((blk_cell hF.out.1 2).trans rfl) (fun hHeld => ?_)
   replace hF := Aside0.mk (hF.out.below (below_drew (Below.refl _ _)))
   generalize w5.drew = wd at *
   refine py 0 39 (bt 12 1) rfl rfl (h := ?_)
   refine ty 1 40 (bt 12 3) rfl rfl hHeld (h := ?_)
   refine py 2 41 (bt 12 7) rfl rfl (h := ?_)
   refine py 3 42 (bt 12 15) rfl rfl (h := ?_)
   refine py 4 43 (bt 12 31) rfl rfl (h := ?_)
   refine ty 5 44 (bt 12 63) rfl rfl hHeld (h := ?_)
   refine py 6 45 (bt 12 127) rfl rfl (h := ?_)
   refine py 7 46 (bt 12 255) rfl rfl (h := ?_)
   refine py 8 47 (bt 12 511) rfl rfl (h := ?_)
   generalize hAA : (if d1 = p + 1 then some (⟨q, 0, none⟩ : Addr) else some ⟨q, (p + 1) * 5, none⟩) = AA
   replace hAA := Lib.hid hAA
   refine oe 9 48 (bt 12 1023) rfl rfl (fun K hK => ?_); refine Kd.R_delete_step k34 (w0 := w) w.heap.size (by rfl) (.tmp 42) (.tmp 47) 25 34 rfl Tryz.underlying25 (by kernel_rfl) (g := q) (n := ns.length) (c := d1) (k := p) rfl rfl ?hA5 ?hm5 hF.out.2.2.2.2.1 hlt.out hF.out.2.2.2.2.2 hF.out.2.2.2.2.2.size ?_
   (case hA5 => rw [← hAA.out]; show _ = if d1 = p + 1 then _ else Option.map (fun x => x.add ((p + 1) * 5)) (some (⟨q, 0, none⟩ : Addr)); simp [Addr.add])
   (case hm5 => rfl)
   intro w6 hR6 hb6 hg6
   rw [List.eraseIdx_eq_take_drop_succ] at hR6
   have g2 := blk_grown hF.out.1 hg6 (fun e => Kd.R_ne hF.out.2.2.2.2.1 hF.out.1 (by decide) (by rw [e]; rfl))
   refine hK.out _ _ ((blk_cell g2 2).trans rfl) (fun hHeld => ?_); clear hK K; refine ny (h := ?_)
   refine py 10 49 (bt 12 2047) rfl rfl (h := ?_)
   refine last_ (i := 11) (N := none) (bt 12 4095) rfl rfl (by kernel_rfl) (by decide) (fun K hK => ?_)
   have y6 := blk_frozen g2 2
   have z6 := (blk_cell g2 2).trans rfl
   refine sk ?_
   refine hK.out _ _ ?_
   clear hK K
   refine done_ (by kernel_rfl) ?_
   have hT := Aside0.mk (hF.out.delN hR6 hg6 n23'.out n24 q2'.out)
   clear hR6 hb6 hg6 g2 y6 z6 hF hHeld hAA j0 j1 j2 j3 j4 j5 l1 l3 l4 l5
   have s0 := (blk_cell hT.out.1 0).trans rfl
   have s1 := (blk_cell hT.out.1 1).trans rfl
   have s2 := (blk_cell hT.out.1 2).trans rfl
   have z0 := (blk_cell hT.out.2.2.1 0).trans rfl
   have z1 := (blk_cell hT.out.2.2.1 1).trans rfl
   have z2 := (blk_cell hT.out.2.2.1 2).trans rfl
   have y0 := blk_frozen hT.out.2.2.1 0
   have y1 := blk_frozen hT.out.2.2.1 1
   have y2 := blk_frozen hT.out.2.2.1 2
   obtain ⟨hZ9, hG9⟩ := put3 (.int .i64 (e)) (.slice A1 ws.length c1) (.slice (some ⟨q, 0, none⟩) (ns.length - 1) d1) hT.out.2.2.1
   replace hZ9 := Lib.hid hZ9
   replace hG9 := Lib.hid hG9
   go_wp2_with fail
   refine bodyPost_ret (results_ct rfl _ _ b4 27 _ (0, 0) _ rfl hZ9.out Tryz.underlying27 rfl (by kernel_rfl)) rfl ?_
   exact ⟨_, _, rfl, R_put3 hT.out.2.2.2.1 hT.out.2.2.1 (by decide) _ _ _, R_put3 hT.out.2.2.2.2.1 hT.out.2.2.1 (by decide) _ _ _, hT.out.2.2.2.2.2.grown hG9.out hT.out.2.2.2.2.2.size (fun k e => by injection e with e; have := q4'.out; omega)⟩
 ·cases hh : hasG (fun x : N => x.f0) z34 ns id with
  | false =>
   have hp : r = (0, [], [], 122) := hr.out.trans (by unfold chS; rw [if_neg (show ¬ (6 : Int) = 1 by decide), if_neg (show ¬ (6 : Int) = 4 by decide), if_neg (show ¬ (6 : Int) = 8 by decide), if_neg (show ¬ (6 : Int) = 2 by decide), if_neg (show ¬ (6 : Int) = 3 by decide), if_neg (show ¬ (6 : Int) = 5 by decide), if_neg (show ¬ FiN.has ns id = true by rw [show FiN.has ns id = false from hh]; exact Bool.false_ne_true)]; rfl)
   clear hr
   subst hp
   rw [show ix (fun x : N => x.f0) z34 ns id = -1 from if_neg (by rw [show hasG (fun x : N => x.f0) z34 ns id = false from hh]; exact Bool.false_ne_true)]
   clear hh
   have z0 := (blk_cell hS.out.2.2.1 0).trans rfl
   have z1 := (blk_cell hS.out.2.2.1 1).trans rfl
   have z2 := (blk_cell hS.out.2.2.1 2).trans rfl
   have y0 := blk_frozen hS.out.2.2.1 0
   have y1 := blk_frozen hS.out.2.2.1 1
   have y2 := blk_frozen hS.out.2.2.1 2
   obtain ⟨hZ9, hG9⟩ := put3 (.int .i64 0) (.slice none 0 0) (.slice none 0 0) hS.out.2.2.1
   replace hZ9 := Lib.hid hZ9
   replace hG9 := Lib.hid hG9
   go_wp2_with fail
   refine bodyPost_ret (results_ct rfl _ _ b4 27 _ (0, 0) _ rfl hZ9.out Tryz.underlying27 rfl (by kernel_rfl)) rfl ?_
   exact ⟨_, _, rfl, Kd.R_nil _ _ _ _ _, Kd.R_nil _ _ _ _ _, hS.out.2.2.2.2.2.grown hG9.out hS.out.2.2.2.2.2.size (fun k e => by injection e with e; have := q4'.out; omega)⟩
  | true =>
   have hp : r = (e, ws, ns.set (FiN.pos ns id) { ns.getD (FiN.pos ns id) z34 with f4 := true }, 0) := hr.out.trans (by unfold chS; rw [if_neg (show ¬ (6 : Int) = 1 by decide), if_neg (show ¬ (6 : Int) = 4 by decide), if_neg (show ¬ (6 : Int) = 8 by decide), if_neg (show ¬ (6 : Int) = 2 by decide), if_neg (show ¬ (6 : Int) = 3 by decide), if_neg (show ¬ (6 : Int) = 5 by decide), if_pos (show FiN.has ns id = true from hh)]; rfl)
   clear hr
   subst hp
   have hlt := has_ltN (show FiN.has ns id = true from hh)
   rw [show ix (fun x : N => x.f0) z34 ns id = ((FiN.pos ns id : Nat) : Int) from if_pos hh]
   clear hh
   generalize FiN.pos ns id = p at *
   obtain ⟨q, rfl⟩ : ∃ q, B1 = some ⟨q, 0, none⟩ := ownN hS.out.2.2.2.2.1 (by omega)
   have hlc := (Kd.R_reads' hS.out.2.2.2.2.1).2.1
   have h8 := hri.2.2.1
   have i0 : decide ((p : Int) < 0) = false := decide_eq_false (by omega)
   have i1 : (0 ≤ (p : Int)) = True := eq_true (by omega)
   have i2 : ((p : Int) < (ns.length : Int)) = True := eq_true (by omega)
   obtain ⟨⟨u_, hs_⟩, hf_, hR4, hG4⟩ := setCord hS.out.2.2.2.2.1 hlt true
   have hT := Aside0.mk (hS.out.rowN hR4 hG4)
   clear hR4 hG4
   have s2 := (blk_cell hS.out.1 2).trans rfl
   replace hlt := Lib.hid hlt
   replace hlc := Lib.hid hlc
   have t0 := (blk_cell hT.out.1 0).trans rfl
   have t1 := (blk_cell hT.out.1 1).trans rfl
   have t2 := (blk_cell hT.out.1 2).trans rfl
   have z0 := (blk_cell hT.out.2.2.1 0).trans rfl
   have z1 := (blk_cell hT.out.2.2.1 1).trans rfl
   have z2 := (blk_cell hT.out.2.2.1 2).trans rfl
   have y0 := blk_frozen hT.out.2.2.1 0
   have y1 := blk_frozen hT.out.2.2.1 1
   have y2 := blk_frozen hT.out.2.2.1 2
   obtain ⟨hZ9, hG9⟩ := put3 (.int .i64 (e)) (.slice A1 ws.length c1) (.slice (some ⟨q, 0, none⟩) ns.length d1) hT.out.2.2.1
   replace hZ9 := Lib.hid hZ9
   replace hG9 := Lib.hid hG9
   go_wp2_with fail
   refine bodyPost_ret (results_ct rfl _ _ b4 27 _ (0, 0) _ rfl hZ9.out Tryz.underlying27 rfl (by kernel_rfl)) rfl ?_
   exact ⟨_, _, rfl, R_put3 hT.out.2.2.2.1 hT.out.2.2.1 (by decide) _ _ _, R_put3 hT.out.2.2.2.2.1 hT.out.2.2.1 (by decide) _ _ _, hT.out.2.2.2.2.2.grown hG9.out hT.out.2.2.2.2.2.size (fun k e => by injection e with e; have := q4'.out; omega)⟩
 ·cases hh : hasG (fun x : N => x.f0) z34 ns id with
  | false =>
   have hp : r = (0, [], [], 122) := hr.out.trans (by unfold chS; rw [if_neg (show ¬ (7 : Int) = 1 by decide), if_neg (show ¬ (7 : Int) = 4 by decide), if_neg (show ¬ (7 : Int) = 8 by decide), if_neg (show ¬ (7 : Int) = 2 by decide), if_neg (show ¬ (7 : Int) = 3 by decide), if_neg (show ¬ (7 : Int) = 5 by decide), if_neg (show ¬ FiN.has ns id = true by rw [show FiN.has ns id = false from hh]; exact Bool.false_ne_true)]; rfl)
   clear hr
   subst hp
   rw [show ix (fun x : N => x.f0) z34 ns id = -1 from if_neg (by rw [show hasG (fun x : N => x.f0) z34 ns id = false from hh]; exact Bool.false_ne_true)]
   clear hh
   have z0 := (blk_cell hS.out.2.2.1 0).trans rfl
   have z1 := (blk_cell hS.out.2.2.1 1).trans rfl
   have z2 := (blk_cell hS.out.2.2.1 2).trans rfl
   have y0 := blk_frozen hS.out.2.2.1 0
   have y1 := blk_frozen hS.out.2.2.1 1
   have y2 := blk_frozen hS.out.2.2.1 2
   obtain ⟨hZ9, hG9⟩ := put3 (.int .i64 0) (.slice none 0 0) (.slice none 0 0) hS.out.2.2.1
   replace hZ9 := Lib.hid hZ9
   replace hG9 := Lib.hid hG9
   go_wp2_with fail
   refine bodyPost_ret (results_ct rfl _ _ b4 27 _ (0, 0) _ rfl hZ9.out Tryz.underlying27 rfl (by kernel_rfl)) rfl ?_
   exact ⟨_, _, rfl, Kd.R_nil _ _ _ _ _, Kd.R_nil _ _ _ _ _, hS.out.2.2.2.2.2.grown hG9.out hS.out.2.2.2.2.2.size (fun k e => by injection e with e; have := q4'.out; omega)⟩
  | true =>
   have hp : r = (e, ws, ns.set (FiN.pos ns id) { ns.getD (FiN.pos ns id) z34 with f4 := false }, 0) := hr.out.trans (by unfold chS; rw [if_neg (show ¬ (7 : Int) = 1 by decide), if_neg (show ¬ (7 : Int) = 4 by decide), if_neg (show ¬ (7 : Int) = 8 by decide), if_neg (show ¬ (7 : Int) = 2 by decide), if_neg (show ¬ (7 : Int) = 3 by decide), if_neg (show ¬ (7 : Int) = 5 by decide), if_pos (show FiN.has ns id = true from hh)]; rfl)
   clear hr
   subst hp
   have hlt := has_ltN (show FiN.has ns id = true from hh)
   rw [show ix (fun x : N => x.f0) z34 ns id = ((FiN.pos ns id : Nat) : Int) from if_pos hh]
   clear hh
   generalize FiN.pos ns id = p at *
   obtain ⟨q, rfl⟩ : ∃ q, B1 = some ⟨q, 0, none⟩ := ownN hS.out.2.2.2.2.1 (by omega)
   have hlc := (Kd.R_reads' hS.out.2.2.2.2.1).2.1
   have h8 := hri.2.2.1
   have i0 : decide ((p : Int) < 0) = false := decide_eq_false (by omega)
   have i1 : (0 ≤ (p : Int)) = True := eq_true (by omega)
   have i2 : ((p : Int) < (ns.length : Int)) = True := eq_true (by omega)
   obtain ⟨⟨u_, hs_⟩, hf_, hR4, hG4⟩ := setCord hS.out.2.2.2.2.1 hlt false
   have hT := Aside0.mk (hS.out.rowN hR4 hG4)
   clear hR4 hG4
   have s2 := (blk_cell hS.out.1 2).trans rfl
   replace hlt := Lib.hid hlt
   replace hlc := Lib.hid hlc
   have t0 := (blk_cell hT.out.1 0).trans rfl
   have t1 := (blk_cell hT.out.1 1).trans rfl
   have t2 := (blk_cell hT.out.1 2).trans rfl
   have z0 := (blk_cell hT.out.2.2.1 0).trans rfl
   have z1 := (blk_cell hT.out.2.2.1 1).trans rfl
   have z2 := (blk_cell hT.out.2.2.1 2).trans rfl
   have y0 := blk_frozen hT.out.2.2.1 0
   have y1 := blk_frozen hT.out.2.2.1 1
   have y2 := blk_frozen hT.out.2.2.1 2
   obtain ⟨hZ9, hG9⟩ := put3 (.int .i64 (e)) (.slice A1 ws.length c1) (.slice (some ⟨q, 0, none⟩) ns.length d1) hT.out.2.2.1
   replace hZ9 := Lib.hid hZ9
   replace hG9 := Lib.hid hG9
   go_wp2_with fail
   refine bodyPost_ret (results_ct rfl _ _ b4 27 _ (0, 0) _ rfl hZ9.out Tryz.underlying27 rfl (by kernel_rfl)) rfl ?_
   exact ⟨_, _, rfl, R_put3 hT.out.2.2.2.1 hT.out.2.2.1 (by decide) _ _ _, R_put3 hT.out.2.2.2.2.1 hT.out.2.2.1 (by decide) _ _ _, hT.out.2.2.2.2.2.grown hG9.out hT.out.2.2.2.2.2.size (fun k e => by injection e with e; have := q4'.out; omega)⟩
 ·have hfr := blk_frozen hS.out.1 0
  have s0 := (blk_cell hS.out.1 0).trans rfl
  have s1 := (blk_cell hS.out.1 1).trans rfl
  have s2 := (blk_cell hS.out.1 2).trans rfl
  by_cases hm : e = 1099511627776
  ·have hp : r = (0, [], [], 120) := hr.out.trans (by unfold chS; rw [if_neg (show ¬ (8 : Int) = 1 by decide), if_neg (show ¬ (8 : Int) = 4 by decide), if_pos (show (8 : Int) = 8 from rfl), if_pos hm]; rfl)
   clear hr
   subst hp
   have d0 : decide ((1099511627776 : Int) ≤ e) = true := decide_eq_true (by omega)
   clear hm
   have z0 := (blk_cell hS.out.2.2.1 0).trans rfl
   have z1 := (blk_cell hS.out.2.2.1 1).trans rfl
   have z2 := (blk_cell hS.out.2.2.1 2).trans rfl
   have y0 := blk_frozen hS.out.2.2.1 0
   have y1 := blk_frozen hS.out.2.2.1 1
   have y2 := blk_frozen hS.out.2.2.1 2
   obtain ⟨hZ9, hG9⟩ := put3 (.int .i64 0) (.slice none 0 0) (.slice none 0 0) hS.out.2.2.1
   replace hZ9 := Lib.hid hZ9
   replace hG9 := Lib.hid hG9
   go_wp2_with fail
   refine bodyPost_ret (results_ct rfl _ _ b4 27 _ (0, 0) _ rfl hZ9.out Tryz.underlying27 rfl (by kernel_rfl)) rfl ?_
   exact ⟨_, _, rfl, Kd.R_nil _ _ _ _ _, Kd.R_nil _ _ _ _ _, hS.out.2.2.2.2.2.grown hG9.out hS.out.2.2.2.2.2.size (fun k e => by injection e with e; have := q4'.out; omega)⟩
  ·have hp : r = (e + 1, ws, ns, 0) := hr.out.trans (by unfold chS; rw [if_neg (show ¬ (8 : Int) = 1 by decide), if_neg (show ¬ (8 : Int) = 4 by decide), if_pos (show (8 : Int) = 8 from rfl), if_neg hm]; rfl)
   clear hr
   subst hp
   have d0 : decide ((1099511627776 : Int) ≤ e) = false := decide_eq_false (by have := hri.1; omega)
   have hwr : wrap64 (e + 1) = e + 1 := by have := hri.1; unfold wrap64; omega
   clear hm
   have hT := Aside0.mk (hS.out.set0 n23'.out n24 q2'.out (e + 1))
   clear s1 s2
   have s0 := (blk_cell hT.out.1 0).trans rfl
   have s1 := (blk_cell hT.out.1 1).trans rfl
   have s2 := (blk_cell hT.out.1 2).trans rfl
   have z0 := (blk_cell hT.out.2.2.1 0).trans rfl
   have z1 := (blk_cell hT.out.2.2.1 1).trans rfl
   have z2 := (blk_cell hT.out.2.2.1 2).trans rfl
   have y0 := blk_frozen hT.out.2.2.1 0
   have y1 := blk_frozen hT.out.2.2.1 1
   have y2 := blk_frozen hT.out.2.2.1 2
   obtain ⟨hZ9, hG9⟩ := put3 (.int .i64 (e + 1)) (.slice A1 ws.length c1) (.slice B1 ns.length d1) hT.out.2.2.1
   replace hZ9 := Lib.hid hZ9
   replace hG9 := Lib.hid hG9
   go_wp2_with fail
   refine bodyPost_ret (results_ct rfl _ _ b4 27 _ (0, 0) _ rfl hZ9.out Tryz.underlying27 rfl (by kernel_rfl)) rfl ?_
   exact ⟨_, _, rfl, R_put3 hT.out.2.2.2.1 hT.out.2.2.1 (by decide) _ _ _, R_put3 hT.out.2.2.2.2.1 hT.out.2.2.1 (by decide) _ _ _, hT.out.2.2.2.2.2.grown hG9.out hT.out.2.2.2.2.2.size (fun k e => by injection e with e; have := q4'.out; omega)⟩
theorem rapply_any (e : Int) (A B : Option Addr) (c d : Nat) (ws : List W) (ns : List N) (k : Int) (x : W) (y : N) (id : ByteArray) (want : Int) (w : World) (hA : Kd.C k32 w A ws.length ws) (hc : ws.length ≤ c) (hN : Kd.C k34 w B ns.length ns) (hd : ns.length ≤ d) (hs : Small ws ns) (hx : x.f5.size < 4294967281) (hy : y.f3.size < 4294967281) :
 Calls Tryz.prog 18 #[stV e A ws.length c B ns.length d, opV k x y id want] w (RaPost w (applyS e ws ns k x y id want)) := by
 unfold applyS
 by_cases h : rightS e ws ns = true ∧ rightO k x y id want = true
 ·rw [if_pos h]
  exact rapply_good e A B c d ws ns k x y id want w hA hc hN hd hs hx hy h.1 h.2
 ·rw [if_neg h]
  refine rapply_bad e A B c d ws ns k x y id want w hA hc hN hd hs hx hy _ _ rfl rfl ?_
  cases h1 : rightS e ws ns with
  | false => rfl
  | true =>
   cases h2 : rightO k x y id want with
   | false => rfl
   | true => exact absurd ⟨h1, h2⟩ h
end Go.Proofs.YtldlkbjbfgieeaaGreatDoor.Ra
