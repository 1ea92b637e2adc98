/- intent.put among works. -/
/- thin -/
import Derived.Test.YtldlkbjbfgieeaaGreatDoorFiW
namespace Go.Proofs.YtldlkbjbfgieeaaGreatDoor.PuW
set_option linter.unusedVariables false
set_option linter.unusedSimpArgs false
open Go.RowKit Go.Proofs.YtldlkbjbfgieeaaGreatDoorW.PrintWords Go.Proofs.YtldlkbjbfgieeaaGreatDoorW.PrintLast Mo Q Rw InW Cb FiW
def putS (l : List S32) (x : S32) : List S32 × Int := if has l x.f0 = true then ([], 121) else if 8 ≤ l.length then ([], 123) else (l.take (pos l x.f0) ++ x :: l.drop (pos l x.f0), 0)
def PuPost (w0 w : World) (V : Value) (ok : Nat → Prop) (r : List S32 × Int) (e : Ending) (w' : World) : Prop := ∃ V', e = .returned (.tuple #[V', .int .i64 r.2]) ∧ k32.R 32 w' w0.heap.size ok V' r.1 ∧ Below w0.heap.size w0 w' ∧ w.grownBy w' V.ownBlock
theorem pos_le (l : List S32) (id : ByteArray) : pos l id ≤ l.length := List.countP_le_length
set_option maxHeartbeats 4000000 in
theorem put_any (V : Value) (l : List S32) (x : S32) (ok : Nat → Prop) (w0 w : World) (hB : Below w0.heap.size w0 w) (hR : k32.R 32 w w0.heap.size ok V l) (hs : Asc l) (hfresh : ∀ k, w.heap.size ≤ k → ok k) (hl : l.length ≤ 2000000) :
 Calls Tryz.prog 73 #[V, .func (.func 70) #[] #[], .agg #[.string x.f0, .int .i64 x.f1, .int .i64 x.f2, .int .i64 x.f3, .int .i64 x.f4, .string x.f5]] w (PuPost w0 w V ok (putS l x)) := by
 obtain ⟨A, c, rfl⟩ := Kd.R_slice hR
 have hC := (Kd.R_reads' hR).2.2
 have HB := below_alloc (Below.refl w.heap.size w) (.cells #[.string x.f0, .int .i64 x.f1, .int .i64 x.f2, .int .i64 x.f3, .int .i64 x.f4, .string x.f5] 32)
 have hC1 := Kd.C_below hC HB
 have hp := pos_le l x.f0
 have hR' := Lib.hid hR
 have hs' := Lib.hid hs
 have hf' := Lib.hid hfresh
 clear hR hs hfresh
 obtain ⟨r, hr⟩ : ∃ r, r = putS l x := ⟨_, rfl⟩
 rw [← hr]
 unfold putS at hr
 by_cases h1 : has l x.f0 = true
 ·rw [if_pos h1] at hr
  subst hr
  go_enter Tryz.func73, Tryz.ntmps73
  go_wp2_with fail
  refine (name_any x _).mono ?_; rintro e w1 ⟨rfl, hb1⟩
  have HB1 := below_then HB HB.size hb1
  go_wp2_with fail
  refine (find_any A c l x.f0 _ (Kd.C_below hC HB1) hs'.out (by omega)).mono ?_; rintro e w2 ⟨rfl, hb2⟩
  have HB2 := below_then HB1 HB1.size hb2
  go_wp2_with fail
  go_ret2
  exact ⟨_, rfl, Kd.R_nil _ _ _ _ _, below_then hB hB.size HB2, grown_of_below HB2 _⟩
 ·have h1' : has l x.f0 = false := by simpa using h1
  rw [if_neg h1] at hr
  clear h1
  by_cases h2 : 8 ≤ l.length
  ·rw [if_pos h2] at hr
   subst hr
   go_enter Tryz.func73, Tryz.ntmps73
   go_wp2_with fail
   refine (name_any x _).mono ?_; rintro e w1 ⟨rfl, hb1⟩
   have HB1 := below_then HB HB.size hb1
   go_wp2_with fail
   refine (find_any A c l x.f0 _ (Kd.C_below hC HB1) hs'.out (by omega)).mono ?_; rintro e w2 ⟨rfl, hb2⟩
   have HB2 := below_then HB1 HB1.size hb2
   have d2 : decide (8 ≤ l.length) = true := decide_eq_true h2
   go_wp2_with fail
   go_ret2
   exact ⟨_, rfl, Kd.R_nil _ _ _ _ _, below_then hB hB.size HB2, grown_of_below HB2 _⟩
  ·rw [if_neg h2] at hr
   have hr' := Lib.hid hr
   clear hr
   go_enter Tryz.func73, Tryz.ntmps73
   go_wp2_with fail
   refine (name_any x _).mono ?_; rintro e w1 ⟨rfl, hb1⟩
   have HB1 := below_then HB HB.size hb1
   have hX1 := blk_below (blk_new w (.cells #[.string x.f0, .int .i64 x.f1, .int .i64 x.f2, .int .i64 x.f3, .int .i64 x.f4, .string x.f5] 32)) hb1
   go_wp2_with fail
   refine (find_any A c l x.f0 _ (Kd.C_below hC HB1) hs'.out (by omega)).mono ?_; rintro e w2 ⟨rfl, hb2⟩
   have HB2 := below_then HB1 HB1.size hb2
   have hX2 := blk_below hX1 hb2
   have d2 : decide (8 ≤ l.length) = false := decide_eq_false h2
   have c0 := (blk_cell hX2 0).trans rfl
   have c1 := (blk_cell hX2 1).trans rfl
   have c2 := (blk_cell hX2 2).trans rfl
   have c3 := (blk_cell hX2 3).trans rfl
   have c4 := (blk_cell hX2 4).trans rfl
   have c5 := (blk_cell hX2 5).trans rfl
   clear hX1
   replace hX2 := Lib.hid hX2
   go_wp2_with fail
   have HB3 := below_alloc HB2 (.cells #[.string x.f0, .int .i64 x.f1, .int .i64 x.f2, .int .i64 x.f3, .int .i64 x.f4, .string x.f5] 32)
   have hX3 := blk_new w2 (.cells #[.string x.f0, .int .i64 x.f1, .int .i64 x.f2, .int .i64 x.f3, .int .i64 x.f4, .string x.f5] 32)
   have hR3 := Kd.R_below hR'.out HB3
   have hsz2 := HB2.size
   have hB3 := below_then hB hB.size HB3
   have hlt := Kd.R_bound hR'.out
   refine (insert_any _ l (pos l x.f0) x w2.heap.size ok w0 _ hB3 hR3 hX3 ?_ (fun k hk => hf'.out k (by have := HB3.size; omega)) (by omega) hp).mono ?_
   ·intro e
    have := own_lt (R_iff.1 hR'.out).2 w2.heap.size e.symm
    omega
   rintro e w4 ⟨V', rfl, hR4, hB4, hG4⟩
   go_wp2_with fail
   go_ret2
   rw [hr'.out]
   exact ⟨_, rfl, hR4, hB4, (grown_of_below HB3 _).trans hG4⟩
end Go.Proofs.YtldlkbjbfgieeaaGreatDoor.PuW
namespace Go.Proofs.YtldlkbjbfgieeaaGreatDoor.PuN
set_option linter.unusedVariables false
set_option linter.unusedSimpArgs false
open Go.RowKit Go.Proofs.YtldlkbjbfgieeaaGreatDoorW.PrintWords Go.Proofs.YtldlkbjbfgieeaaGreatDoorW.PrintLast Mo Q Rw InN Cb FiN
def putS (l : List S34) (x : S34) : List S34 × Int := if has l x.f0 = true then ([], 121) else if 8 ≤ l.length then ([], 123) else (l.take (pos l x.f0) ++ x :: l.drop (pos l x.f0), 0)
def PuPost (w0 w : World) (V : Value) (ok : Nat → Prop) (r : List S34 × Int) (e : Ending) (w' : World) : Prop := ∃ V', e = .returned (.tuple #[V', .int .i64 r.2]) ∧ k34.R 34 w' w0.heap.size ok V' r.1 ∧ Below w0.heap.size w0 w' ∧ w.grownBy w' V.ownBlock
end Go.Proofs.YtldlkbjbfgieeaaGreatDoor.PuN
