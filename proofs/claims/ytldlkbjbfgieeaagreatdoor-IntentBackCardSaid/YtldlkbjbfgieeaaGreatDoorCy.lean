/- The document's copied: a state of its own. -/
/- thin -/
import Derived.Test.YtldlkbjbfgieeaaGreatDoorAp
import Derived.Test.YtldlkbjbfgieeaaGreatDoorMo
namespace Go.Proofs.YtldlkbjbfgieeaaGreatDoor.Cy
set_option linter.unusedVariables false
set_option linter.unusedSimpArgs false
open Go.RowKit Go.Proofs.YtldlkbjbfgieeaaGreatDoorW.PrintWords Go.Proofs.YtldlkbjbfgieeaaGreatDoorW.PrintLast Mo Q Ch Ap
open Go.Proofs.YtldlkbjbfgieeaaGreatDoor.Ri (stV)
def Cf (w w' : World) (b1 b2 : Nat) (e : Int) (A B : Option Addr) (c d : Nat) (ws : List W) (ns : List N) : Prop :=
 w'.heap[b1]? = some (.cells #[.int .i64 e, .slice A ws.length c, .slice B ns.length d] 27 (0, 0)) ∧ w'.heap[b2]? = some (.cells #[.int .i64 0, .slice none 0 0, .slice none 0 0] 27 (0, 0)) ∧ Kd.C k32 w' A ws.length ws ∧ Kd.C k34 w' B ns.length ns ∧ Below w.heap.size w w'
theorem Cf.below {w w' w2 : World} {b1 b2 : Nat} {e : Int} {A B : Option Addr} {c d : Nat} {ws : List W} {ns : List N} (h : Cf w w' b1 b2 e A B c d ws ns) (hb : Below w'.heap.size w' w2) : Cf w w2 b1 b2 e A B c d ws ns :=
 ⟨blk_below h.1 hb, blk_below h.2.1 hb, Kd.C_below h.2.2.1 hb, Kd.C_below h.2.2.2.1 hb, below_then h.2.2.2.2 h.2.2.2.2.size hb⟩
theorem cells3 {w w' : World} {b1 b2 : Nat} {e : Int} {A B : Option Addr} {c d : Nat} {ws : List W} {ns : List N} (h : Cf w w' b1 b2 e A B c d ws ns) : w'.cell? ⟨b1, 0, none⟩ = some (.int .i64 e) ∧ w'.cell? ⟨b1, 1, none⟩ = some (.slice A ws.length c) ∧ w'.cell? ⟨b1, 2, none⟩ = some (.slice B ns.length d) := ⟨(blk_cell h.1 0).trans rfl, (blk_cell h.1 1).trans rfl, (blk_cell h.1 2).trans rfl⟩
theorem nt (N : Nat) {P : Program} {ops : Array Oper} {Q : Exit → Act → World → Prop} {md : Region.Mode} {S : World → Prop} {ds : List Nat} {fuel : Nat} {l : Array Bool} {a : Act} {w : World} {v : Value} {a' : Act} (ha : a.put (some N) v = a' := by (simp only [Act.put, List.setIfInBounds_toArray, List.set_cons_zero, List.set_cons_succ]; rfl)) (h : wpAnyLast P md ops Q S ds fuel l a' w) : wpAnyLast P md ops Q S ds fuel l (a.put (some N) v) w := norm_ ha h
theorem below_of_none {w w' : World} (h : w.grownBy w' (Value.ownBlock (.slice none 0 0))) : Below w.heap.size w w' := ⟨h.os, h.tape, h.output, h.size, fun k hk => h.block k hk (by simp [Value.ownBlock])⟩
def CyPost (w : World) (e : Int) (ws : List W) (ns : List N) (e' : Ending) (w' : World) : Prop := ∃ V U, e' = .returned (.agg #[.int .i64 e, V, U]) ∧ k32.R 32 w' w.heap.size (fun _ => True) V ws ∧ k34.R 34 w' w.heap.size (fun _ => True) U ns ∧ Below w.heap.size w w'
set_option maxHeartbeats 4000000 in
set_option maxRecDepth 100000 in
theorem copied_any (e : Int) (A B : Option Addr) (c d : Nat) (ws : List W) (ns : List N) (w : World) (hA : Kd.C k32 w A ws.length ws) (hN : Kd.C k34 w B ns.length ns) (h1 : ws.length ≤ 1000000) (h2 : ns.length ≤ 1000000) :
 Calls Tryz.prog 40 #[stV e A ws.length c B ns.length d] w (CyPost w e ws ns) := by
 have hF := below_alloc (below_alloc (Below.refl w.heap.size w) (stC e A ws.length c B ns.length d)) stZ
 have g1 := blk_alloc (blk_new w (stC e A ws.length c B ns.length d)) stZ
 have g2 := blk_new (w.alloc (stC e A ws.length c B ns.length d)) stZ
 obtain ⟨b1, hg⟩ : ∃ g, g = w.heap.size := ⟨_, rfl⟩
 obtain ⟨b2, ho⟩ : ∃ o, o = w.heap.size + 1 := ⟨_, rfl⟩
 have hge := Lib.hid (show w.heap.size ≤ b2 by omega)
 rw [← hg] at g1
 rw [show (w.alloc (stC e A ws.length c B ns.length d)).heap.size = b2 by simp [ho]] at g2
 replace hF := Aside0.mk (show Cf w _ b1 b2 e A B c d ws ns from ⟨g1, g2, Kd.C_below hA hF, Kd.C_below hN hF, hF⟩)
 replace hg := Lib.hid hg
 replace ho := Lib.hid ho
 clear g1 g2 hA hN
 go_enter Tryz.func40, Tryz.ntmps40
 go_wp2_with fail
 rw [← ho.out, ← hg.out]
 revert hF
 generalize (w.alloc (stC e A ws.length c B ns.length d)).alloc stZ = wa
 intro hF
 refine start_ (n := 12) (S := fun w' => w'.cell? ⟨b1, 0, none⟩ = some (.int .i64 e) ∧ w'.cell? ⟨b1, 1, none⟩ = some (.slice A ws.length c) ∧ w'.cell? ⟨b1, 2, none⟩ = some (.slice B ns.length d)) (ds := [11]) (bt 12 0) (by kernel_rfl) rfl (by kernel_rfl) (cells3 (w' := wa) hF.out) (fun hHeld => ?_)
 replace hF := Aside0.mk (hF.out.below (below_drew (Below.refl _ _)))
 generalize wa.drew = wd at *
 refine py 0 5 (bt 12 1) rfl rfl (h := ?_)
 refine ty 1 6 (bt 12 3) rfl rfl hHeld (h := ?_)
 refine py 2 7 (bt 12 7) rfl rfl (h := ?_)
 refine py 3 8 (bt 12 15) rfl rfl (h := ?_)
 refine ty 4 9 (bt 12 31) rfl rfl hHeld (h := ?_)
 refine py 6 11 (bt 12 95) rfl rfl (h := ?_)
 refine py 7 12 (bt 12 223) rfl rfl (h := ?_)
 refine ty 8 13 (bt 12 479) rfl rfl hHeld (h := ?_)
 refine oe 5 10 (bt 12 511) rfl rfl (fun K hK => ?_)
 refine Kd.R_append_rows_step k32 (w0 := w) w.heap.size (by rfl) (.tmp 7) (.tmp 9) 24 32 (.agg #[.string ⟨#[]⟩, .int .i64 0, .int .i64 0, .int .i64 0, .int .i64 0, .string ⟨#[]⟩]) 64 rfl Tryz.underlying24 info32 rfl (by decide) (by omega) (.slice none 0 0) [] ws _ _ _ (fun _ => True) (fun _ => False) rfl rfl (Kd.R_nil _ _ _ _ (fun _ => True)) hF.out.2.2.1 (fun _ _ h => h) (fun _ h => h.elim) (fun _ _ => trivial) hF.out.2.2.2.2 hF.out.2.2.2.2.size (by simp; omega) ?_
 intro V0 w1 ho hb hg_ hat
 rw [List.nil_append] at ho
 have hx : Below wd.heap.size wd w1 := below_of_none hg_
 have hV := Aside0.mk ho
 replace hF := Aside0.mk (hF.out.below hx)
 clear ho hb hg_ hat hx
 refine hK.out _ _ (cells3 hF.out) (fun hHeld => ?_); clear hK K; refine nt 10 (h := ?_)
 refine oe 9 14 (bt 12 1023) rfl rfl (fun K hK => ?_)
 refine Kd.R_append_rows_step k34 (w0 := w) w.heap.size (by rfl) (.tmp 11) (.tmp 13) 25 34 (.agg #[.string ⟨#[]⟩, .int .i64 0, .int .i64 0, .string ⟨#[]⟩, .bool false]) 56 rfl Tryz.underlying25 info34 rfl (by decide) (by omega) (.slice none 0 0) [] ns _ _ _ (fun _ => True) (fun _ => False) rfl rfl (Kd.R_nil _ _ _ _ (fun _ => True)) hF.out.2.2.2.1 (fun _ _ h => h) (fun _ h => h.elim) (fun _ _ => trivial) hF.out.2.2.2.2 hF.out.2.2.2.2.size (by simp; omega) ?_
 intro V1 w2 ho hb hg_ hat
 rw [List.nil_append] at ho
 have hx : Below w1.heap.size w1 w2 := below_of_none hg_
 have hU := Aside0.mk ho
 replace hV := Aside0.mk (Kd.R_below hV.out hx)
 replace hF := Aside0.mk (hF.out.below hx)
 clear ho hb hg_ hat hx
 refine hK.out _ _ (cells3 hF.out) (fun hHeld => ?_); clear hK K; refine nt 14 (h := ?_)
 obtain ⟨A1, c1, rfl⟩ := Kd.R_slice hV.out
 obtain ⟨B1, d1, rfl⟩ := Kd.R_slice hU.out
 refine py 10 15 (bt 12 2047) rfl rfl (h := ?_)
 refine last_ (i := 11) (N := none) (bt 12 4095) rfl rfl (by kernel_rfl) (by decide) (fun K hK => ?_)
 have z0 := (blk_cell hF.out.2.1 0).trans rfl
 have y0 := blk_frozen hF.out.2.1 0
 have z1 := (blk_cell hF.out.2.1 1).trans rfl
 have y1 := blk_frozen hF.out.2.1 1
 have z2 := (blk_cell hF.out.2.1 2).trans rfl
 have y2 := blk_frozen hF.out.2.1 2
 refine sk ?_
 refine hK.out _ _ ?_
 clear hK K
 refine done_ (by kernel_rfl) ?_
 obtain ⟨hZ9, hG9⟩ := put3 (.int .i64 e) (.slice A1 ws.length c1) (.slice B1 ns.length d1) hF.out.2.1
 replace hZ9 := Lib.hid hZ9
 replace hG9 := Lib.hid hG9
 go_wp2_with fail
 refine bodyPost_ret (results_cell_row rfl _ _ b2 27 _ (0, 0) _ rfl hZ9.out Tryz.underlying27 rfl (by kernel_rfl)) rfl ?_
 exact ⟨_, _, rfl, R_put3 hV.out hF.out.2.1 (by decide) _ _ _, R_put3 hU.out hF.out.2.1 (by decide) _ _ _, hF.out.2.2.2.2.grown hG9.out hF.out.2.2.2.2.size (fun k e => by injection e with e; have := hge.out; omega)⟩
end Go.Proofs.YtldlkbjbfgieeaaGreatDoor.Cy
