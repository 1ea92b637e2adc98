/- intent.GetOp at what PutOp laid. -/
/- thin -/
import Derived.Test.YtldlkbjbfgieeaaGreatDoorGw
import Derived.Test.YtldlkbjbfgieeaaGreatDoorPw
import Derived.Test.YtldlkbjbfgieeaaGreatDoorOf
namespace Go.Proofs.YtldlkbjbfgieeaaGreatDoor.Gop
set_option linter.unusedVariables false
set_option linter.unusedSimpArgs false
open Go.RowKit Go.Proofs.YtldlkbjbfgieeaaGreatDoorW.PrintWords Go.Proofs.YtldlkbjbfgieeaaGreatDoorW.PrintLast Mo Q Go.Proofs.YtldlkbjbfgieeaaGreatDoor.Num Giv Ch Ap Pk Gw
open Go.Proofs.YtldlkbjbfgieeaaGreatDoor.Ri (rightO rightW rightN)
open Go.Proofs.YtldlkbjbfgieeaaGreatDoor.Op (opZ put14)
set_option maxHeartbeats 4000000 in
set_option maxRecDepth 100000 in
theorem getOp_1 (x : W) (y : N) (id : ByteArray) (want : Int) (w : World) (hx : okW x) (hy : okN y) (hi : id.size ≤ 200) (hv : In want) (p : ByteArray) (hp : p = (num 1 ++ workB x)) (hop : ∀ W, Calls Tryz.prog 29 #[opV 1 (gX 1 x) (gY 1 y) (gI 1 id) (gV 1 want)] W fun e' w' => e' = .returned (.bool true) ∧ Below W.heap.size W w') :
 Calls Tryz.prog 21 #[.string p] w fun e w' => e = .returned (.tuple #[opV 1 (gX 1 x) (gY 1 y) (gI 1 id) (gV 1 want), .int .i64 0]) ∧ Below w.heap.size w w' := by
 have hs : p.size ≤ 4611686018427387904 := by
  have u0 := Pw.nsz 1
  have u1 := Pw.wsz x hx
  have u2 := Pw.nsz want
  rw [hp]
  (try simp only [ByteArray.size_append])
  omega
 replace hp := Lib.hid hp
 replace hop := Aside0.mk hop
 have hB := below_alloc (Below.refl w.heap.size w) opZ
 have h2 := blk_new w opZ
 obtain ⟨b2, hb2_⟩ : ∃ b, b = w.heap.size := ⟨_, rfl⟩
 rw [← hb2_] at h2
 have hge2 : w.heap.size ≤ b2 := by omega
 replace hb2_ := Lib.hid hb2_
 replace hge2 := Lib.hid hge2
 go_enter Tryz.func21, Tryz.ntmps21
 go_wp2_with fail
 rw [← hb2_.out]
 revert hB; revert h2
 generalize w.alloc opZ = v0
 intro h2 hB
 refine (varint_New.calls p p 0 false w v0 hB rfl).mono ?_
 rintro e' v1 ⟨g, rfl, hI, hB1, hb, _⟩
 replace h2 := blk_below h2 hb
 clear hB hb
 have hg2 := hI.ne_blk h2 (by decide)
 go_wp2_with fail
 refine (rnum p ByteArray.empty (workB x) 1 (by rw [hp.out]; simp only [ByteArray.empty_append]) ⟨by decide, by decide⟩ hs hI hB1).mono ?_
 rintro e' v2 ⟨rfl, hI, hB, hk⟩
 replace h2 := hk.blk h2 hg2.symm (by simp)
 clear hk
 have h5 := blk_new v2 (.cells #[.int .i64 1, .string ⟨#[]⟩, .int .i64 0, .int .i64 0, .int .i64 0, .int .i64 0, .string ⟨#[]⟩, .string ⟨#[]⟩, .int .i64 0, .int .i64 0, .string ⟨#[]⟩, .bool false, .string ⟨#[]⟩, .int .i64 0] 36)
 have hq := below_alloc (Below.refl v2.heap.size v2) (.cells #[.int .i64 1, .string ⟨#[]⟩, .int .i64 0, .int .i64 0, .int .i64 0, .int .i64 0, .string ⟨#[]⟩, .string ⟨#[]⟩, .int .i64 0, .int .i64 0, .string ⟨#[]⟩, .bool false, .string ⟨#[]⟩, .int .i64 0] 36)
 obtain ⟨b5, hb5_⟩ : ∃ b, b = v2.heap.size := ⟨_, rfl⟩
 have hge5 := Lib.hid (show w.heap.size ≤ b5 by rw [hb5_]; exact hB.size)
 have h25 : b2 ≠ b5 := by rw [hb5_]; exact Nat.ne_of_lt (blk_lt h2)
 rw [← hb5_] at h5
 replace hb5_ := Lib.hid hb5_
 replace h2 := blk_below h2 hq
 replace hI := hI.below hq
 replace hB := below_then hB hB.size hq
 clear hq
 have hg5 := hI.ne_blk h5 (by decide)
 have o0 := (blk_cell h5 0).trans rfl
 go_wp2_with fail
 rw [← hb5_.out]
 generalize v2.alloc (.cells #[.int .i64 1, .string ⟨#[]⟩, .int .i64 0, .int .i64 0, .int .i64 0, .int .i64 0, .string ⟨#[]⟩, .string ⟨#[]⟩, .int .i64 0, .int .i64 0, .string ⟨#[]⟩, .bool false, .string ⟨#[]⟩, .int .i64 0] 36) = v3 at *
 clear o0
 refine (getWork_at p ((ByteArray.empty ++ num 1)) ByteArray.empty x (by rw [hp.out]; simp only [ByteArray.empty_append, ByteArray.append_empty]) hx hs hI hB).mono ?_
 rintro e' v4 ⟨rfl, hI, hB, hk⟩
 replace h2 := hk.blk h2 hg2.symm (by simp)
 replace h5 := hk.blk h5 hg5.symm (by simp)
 clear hk
 have y1 := (blk_cell h5 1).trans rfl
 have z1 := blk_frozen h5 1
 have y2 := (blk_cell h5 2).trans rfl
 have z2 := blk_frozen h5 2
 have y3 := (blk_cell h5 3).trans rfl
 have z3 := blk_frozen h5 3
 have y4 := (blk_cell h5 4).trans rfl
 have z4 := blk_frozen h5 4
 have y5 := (blk_cell h5 5).trans rfl
 have z5 := blk_frozen h5 5
 have y6 := (blk_cell h5 6).trans rfl
 have z6 := blk_frozen h5 6
 have g0 := h5
 have g1 := blk_put g0 1 (.string x.f0) (cs' := #[.int .i64 1, .string x.f0, .int .i64 0, .int .i64 0, .int .i64 0, .int .i64 0, .string ⟨#[]⟩, .string ⟨#[]⟩, .int .i64 0, .int .i64 0, .string ⟨#[]⟩, .bool false, .string ⟨#[]⟩, .int .i64 0]) rfl
 replace hI := hI.far (p := ⟨b5, 1, none⟩) hg5 (.string x.f0)
 replace hB := hB.setCell (p := ⟨b5, 1, none⟩) hge5.out (.string x.f0)
 replace h2 := blk_far (p := ⟨b5, 1, none⟩) h2 h25 (.string x.f0)
 have g2 := blk_put g1 2 (.int .i64 x.f1) (cs' := #[.int .i64 1, .string x.f0, .int .i64 x.f1, .int .i64 0, .int .i64 0, .int .i64 0, .string ⟨#[]⟩, .string ⟨#[]⟩, .int .i64 0, .int .i64 0, .string ⟨#[]⟩, .bool false, .string ⟨#[]⟩, .int .i64 0]) rfl
 replace hI := hI.far (p := ⟨b5, 2, none⟩) hg5 (.int .i64 x.f1)
 replace hB := hB.setCell (p := ⟨b5, 2, none⟩) hge5.out (.int .i64 x.f1)
 replace h2 := blk_far (p := ⟨b5, 2, none⟩) h2 h25 (.int .i64 x.f1)
 have g3 := blk_put g2 3 (.int .i64 x.f2) (cs' := #[.int .i64 1, .string x.f0, .int .i64 x.f1, .int .i64 x.f2, .int .i64 0, .int .i64 0, .string ⟨#[]⟩, .string ⟨#[]⟩, .int .i64 0, .int .i64 0, .string ⟨#[]⟩, .bool false, .string ⟨#[]⟩, .int .i64 0]) rfl
 replace hI := hI.far (p := ⟨b5, 3, none⟩) hg5 (.int .i64 x.f2)
 replace hB := hB.setCell (p := ⟨b5, 3, none⟩) hge5.out (.int .i64 x.f2)
 replace h2 := blk_far (p := ⟨b5, 3, none⟩) h2 h25 (.int .i64 x.f2)
 have g4 := blk_put g3 4 (.int .i64 x.f3) (cs' := #[.int .i64 1, .string x.f0, .int .i64 x.f1, .int .i64 x.f2, .int .i64 x.f3, .int .i64 0, .string ⟨#[]⟩, .string ⟨#[]⟩, .int .i64 0, .int .i64 0, .string ⟨#[]⟩, .bool false, .string ⟨#[]⟩, .int .i64 0]) rfl
 replace hI := hI.far (p := ⟨b5, 4, none⟩) hg5 (.int .i64 x.f3)
 replace hB := hB.setCell (p := ⟨b5, 4, none⟩) hge5.out (.int .i64 x.f3)
 replace h2 := blk_far (p := ⟨b5, 4, none⟩) h2 h25 (.int .i64 x.f3)
 have g5 := blk_put g4 5 (.int .i64 x.f4) (cs' := #[.int .i64 1, .string x.f0, .int .i64 x.f1, .int .i64 x.f2, .int .i64 x.f3, .int .i64 x.f4, .string ⟨#[]⟩, .string ⟨#[]⟩, .int .i64 0, .int .i64 0, .string ⟨#[]⟩, .bool false, .string ⟨#[]⟩, .int .i64 0]) rfl
 replace hI := hI.far (p := ⟨b5, 5, none⟩) hg5 (.int .i64 x.f4)
 replace hB := hB.setCell (p := ⟨b5, 5, none⟩) hge5.out (.int .i64 x.f4)
 replace h2 := blk_far (p := ⟨b5, 5, none⟩) h2 h25 (.int .i64 x.f4)
 have g6 := blk_put g5 6 (.string x.f5) (cs' := #[.int .i64 1, .string x.f0, .int .i64 x.f1, .int .i64 x.f2, .int .i64 x.f3, .int .i64 x.f4, .string x.f5, .string ⟨#[]⟩, .int .i64 0, .int .i64 0, .string ⟨#[]⟩, .bool false, .string ⟨#[]⟩, .int .i64 0]) rfl
 replace hI := hI.far (p := ⟨b5, 6, none⟩) hg5 (.string x.f5)
 replace hB := hB.setCell (p := ⟨b5, 6, none⟩) hge5.out (.string x.f5)
 replace h2 := blk_far (p := ⟨b5, 6, none⟩) h2 h25 (.string x.f5)
 replace h5 := g6
 clear g0 g1 g2 g3 g4 g5 g6
 go_wp2_with fail
 clear y1 z1 y2 z2 y3 z3 y4 z4 y5 z5 y6 z6
 generalize ((((((v4.setCell ⟨b5, 1, none⟩ (.string x.f0)).setCell ⟨b5, 2, none⟩ (.int .i64 x.f1)).setCell ⟨b5, 3, none⟩ (.int .i64 x.f2)).setCell ⟨b5, 4, none⟩ (.int .i64 x.f3)).setCell ⟨b5, 5, none⟩ (.int .i64 x.f4)).setCell ⟨b5, 6, none⟩ (.string x.f5)) = v5 at *
 rw [show ByteArray.empty ++ num 1 ++ workB x = p from by rw [hp.out]; simp only [ByteArray.empty_append, ByteArray.append_assoc]] at hI
 refine (rends p hs hI hB).mono ?_
 rintro e' v8 ⟨rfl, hI, hB, hk⟩
 replace h2 := hk.blk h2 hg2.symm (by simp)
 replace h5 := hk.blk h5 hg5.symm (by simp)
 clear hk
 have o0 := (blk_cell h5 0).trans rfl
 have o1 := (blk_cell h5 1).trans rfl
 have o2 := (blk_cell h5 2).trans rfl
 have o3 := (blk_cell h5 3).trans rfl
 have o4 := (blk_cell h5 4).trans rfl
 have o5 := (blk_cell h5 5).trans rfl
 have o6 := (blk_cell h5 6).trans rfl
 have o7 := (blk_cell h5 7).trans rfl
 have o8 := (blk_cell h5 8).trans rfl
 have o9 := (blk_cell h5 9).trans rfl
 have o10 := (blk_cell h5 10).trans rfl
 have o11 := (blk_cell h5 11).trans rfl
 have o12 := (blk_cell h5 12).trans rfl
 have o13 := (blk_cell h5 13).trans rfl
 go_wp2_with fail
 clear o0 o1 o2 o3 o4 o5 o6 o7 o8 o9 o10 o11 o12 o13
 refine (hop.out _).mono ?_
 rintro e' v9 ⟨rfl, hb⟩
 replace h2 := blk_below h2 hb
 replace h5 := blk_below h5 hb
 replace hB := below_then hB hB.size hb
 clear hb
 have o0 := (blk_cell h5 0).trans rfl
 have o1 := (blk_cell h5 1).trans rfl
 have o2 := (blk_cell h5 2).trans rfl
 have o3 := (blk_cell h5 3).trans rfl
 have o4 := (blk_cell h5 4).trans rfl
 have o5 := (blk_cell h5 5).trans rfl
 have o6 := (blk_cell h5 6).trans rfl
 have o7 := (blk_cell h5 7).trans rfl
 have o8 := (blk_cell h5 8).trans rfl
 have o9 := (blk_cell h5 9).trans rfl
 have o10 := (blk_cell h5 10).trans rfl
 have o11 := (blk_cell h5 11).trans rfl
 have o12 := (blk_cell h5 12).trans rfl
 have o13 := (blk_cell h5 13).trans rfl
 have y0 := (blk_cell h2 0).trans rfl
 have z0 := blk_frozen h2 0
 have y1 := (blk_cell h2 1).trans rfl
 have z1 := blk_frozen h2 1
 have y2 := (blk_cell h2 2).trans rfl
 have z2 := blk_frozen h2 2
 have y3 := (blk_cell h2 3).trans rfl
 have z3 := blk_frozen h2 3
 have y4 := (blk_cell h2 4).trans rfl
 have z4 := blk_frozen h2 4
 have y5 := (blk_cell h2 5).trans rfl
 have z5 := blk_frozen h2 5
 have y6 := (blk_cell h2 6).trans rfl
 have z6 := blk_frozen h2 6
 have y7 := (blk_cell h2 7).trans rfl
 have z7 := blk_frozen h2 7
 have y8 := (blk_cell h2 8).trans rfl
 have z8 := blk_frozen h2 8
 have y9 := (blk_cell h2 9).trans rfl
 have z9 := blk_frozen h2 9
 have y10 := (blk_cell h2 10).trans rfl
 have z10 := blk_frozen h2 10
 have y11 := (blk_cell h2 11).trans rfl
 have z11 := blk_frozen h2 11
 have y12 := (blk_cell h2 12).trans rfl
 have z12 := blk_frozen h2 12
 have y13 := (blk_cell h2 13).trans rfl
 have z13 := blk_frozen h2 13
 obtain ⟨hZ9, hG9⟩ := put14 (.int .i64 1) (.string x.f0) (.int .i64 x.f1) (.int .i64 x.f2) (.int .i64 x.f3) (.int .i64 x.f4) (.string x.f5) (.string ⟨#[]⟩) (.int .i64 0) (.int .i64 0) (.string ⟨#[]⟩) (.bool false) (.string ⟨#[]⟩) (.int .i64 0) h2
 replace hZ9 := Lib.hid hZ9
 replace hG9 := Lib.hid hG9
 go_wp2_with fail
 refine bodyPost_ret (results_ct rfl _ _ b2 36 _ (0, 0) _ rfl hZ9.out Tryz.underlying36 rfl (by kernel_rfl)) rfl ?_
 exact ⟨rfl, hB.grown hG9.out hB.size (fun k e => by injection e with e; have := hge2.out; omega)⟩
set_option maxHeartbeats 4000000 in
set_option maxRecDepth 100000 in
theorem getOp_2 (x : W) (y : N) (id : ByteArray) (want : Int) (w : World) (hx : okW x) (hy : okN y) (hi : id.size ≤ 200) (hv : In want) (p : ByteArray) (hp : p = (num 2 ++ (text id ++ num want))) (hop : ∀ W, Calls Tryz.prog 29 #[opV 2 (gX 2 x) (gY 2 y) (gI 2 id) (gV 2 want)] W fun e' w' => e' = .returned (.bool true) ∧ Below W.heap.size W w') :
 Calls Tryz.prog 21 #[.string p] w fun e w' => e = .returned (.tuple #[opV 2 (gX 2 x) (gY 2 y) (gI 2 id) (gV 2 want), .int .i64 0]) ∧ Below w.heap.size w w' := by
 have hs : p.size ≤ 4611686018427387904 := by
  have u0 := Pw.nsz 2
  have u1 := Pw.tsz id hi
  have u2 := Pw.nsz want
  rw [hp]
  (try simp only [ByteArray.size_append])
  omega
 replace hp := Lib.hid hp
 replace hop := Aside0.mk hop
 have hB := below_alloc (Below.refl w.heap.size w) opZ
 have h2 := blk_new w opZ
 obtain ⟨b2, hb2_⟩ : ∃ b, b = w.heap.size := ⟨_, rfl⟩
 rw [← hb2_] at h2
 have hge2 : w.heap.size ≤ b2 := by omega
 replace hb2_ := Lib.hid hb2_
 replace hge2 := Lib.hid hge2
 go_enter Tryz.func21, Tryz.ntmps21
 go_wp2_with fail
 rw [← hb2_.out]
 revert hB; revert h2
 generalize w.alloc opZ = v0
 intro h2 hB
 refine (varint_New.calls p p 0 false w v0 hB rfl).mono ?_
 rintro e' v1 ⟨g, rfl, hI, hB1, hb, _⟩
 replace h2 := blk_below h2 hb
 clear hB hb
 have hg2 := hI.ne_blk h2 (by decide)
 go_wp2_with fail
 refine (rnum p ByteArray.empty ((text id ++ num want)) 2 (by rw [hp.out]; simp only [ByteArray.empty_append]) ⟨by decide, by decide⟩ hs hI hB1).mono ?_
 rintro e' v2 ⟨rfl, hI, hB, hk⟩
 replace h2 := hk.blk h2 hg2.symm (by simp)
 clear hk
 have h5 := blk_new v2 (.cells #[.int .i64 2, .string ⟨#[]⟩, .int .i64 0, .int .i64 0, .int .i64 0, .int .i64 0, .string ⟨#[]⟩, .string ⟨#[]⟩, .int .i64 0, .int .i64 0, .string ⟨#[]⟩, .bool false, .string ⟨#[]⟩, .int .i64 0] 36)
 have hq := below_alloc (Below.refl v2.heap.size v2) (.cells #[.int .i64 2, .string ⟨#[]⟩, .int .i64 0, .int .i64 0, .int .i64 0, .int .i64 0, .string ⟨#[]⟩, .string ⟨#[]⟩, .int .i64 0, .int .i64 0, .string ⟨#[]⟩, .bool false, .string ⟨#[]⟩, .int .i64 0] 36)
 obtain ⟨b5, hb5_⟩ : ∃ b, b = v2.heap.size := ⟨_, rfl⟩
 have hge5 := Lib.hid (show w.heap.size ≤ b5 by rw [hb5_]; exact hB.size)
 have h25 : b2 ≠ b5 := by rw [hb5_]; exact Nat.ne_of_lt (blk_lt h2)
 rw [← hb5_] at h5
 replace hb5_ := Lib.hid hb5_
 replace h2 := blk_below h2 hq
 replace hI := hI.below hq
 replace hB := below_then hB hB.size hq
 clear hq
 have hg5 := hI.ne_blk h5 (by decide)
 have o0 := (blk_cell h5 0).trans rfl
 go_wp2_with fail
 rw [← hb5_.out]
 generalize v2.alloc (.cells #[.int .i64 2, .string ⟨#[]⟩, .int .i64 0, .int .i64 0, .int .i64 0, .int .i64 0, .string ⟨#[]⟩, .string ⟨#[]⟩, .int .i64 0, .int .i64 0, .string ⟨#[]⟩, .bool false, .string ⟨#[]⟩, .int .i64 0] 36) = v3 at *
 clear o0
 refine (rtext p ((ByteArray.empty ++ num 2)) (num want) id (by rw [hp.out]; simp only [ByteArray.empty_append, ByteArray.append_empty, ByteArray.append_assoc]) hi hs hI hB).mono ?_
 rintro e' v4 ⟨rfl, hI, hB, hk⟩
 replace h2 := hk.blk h2 hg2.symm (by simp)
 replace h5 := hk.blk h5 hg5.symm (by simp)
 clear hk
 have y12 := (blk_cell h5 12).trans rfl
 have z12 := blk_frozen h5 12
 have g0 := h5
 have g1 := blk_put g0 12 (.string id) (cs' := #[.int .i64 2, .string ⟨#[]⟩, .int .i64 0, .int .i64 0, .int .i64 0, .int .i64 0, .string ⟨#[]⟩, .string ⟨#[]⟩, .int .i64 0, .int .i64 0, .string ⟨#[]⟩, .bool false, .string id, .int .i64 0]) rfl
 replace hI := hI.far (p := ⟨b5, 12, none⟩) hg5 (.string id)
 replace hB := hB.setCell (p := ⟨b5, 12, none⟩) hge5.out (.string id)
 replace h2 := blk_far (p := ⟨b5, 12, none⟩) h2 h25 (.string id)
 replace h5 := g1
 clear g0 g1
 go_wp2_with fail
 clear y12 z12
 generalize (v4.setCell ⟨b5, 12, none⟩ (.string id)) = v6 at *
 refine (rnum p ((ByteArray.empty ++ num 2) ++ text id) ByteArray.empty want (by rw [hp.out]; simp only [ByteArray.empty_append, ByteArray.append_empty, ByteArray.append_assoc]) hv hs hI hB).mono ?_
 rintro e' v7 ⟨rfl, hI, hB, hk⟩
 replace h2 := hk.blk h2 hg2.symm (by simp)
 replace h5 := hk.blk h5 hg5.symm (by simp)
 clear hk
 have y13 := (blk_cell h5 13).trans rfl
 have z13 := blk_frozen h5 13
 have g0 := h5
 have g1 := blk_put g0 13 (.int .i64 want) (cs' := #[.int .i64 2, .string ⟨#[]⟩, .int .i64 0, .int .i64 0, .int .i64 0, .int .i64 0, .string ⟨#[]⟩, .string ⟨#[]⟩, .int .i64 0, .int .i64 0, .string ⟨#[]⟩, .bool false, .string id, .int .i64 want]) rfl
 replace hI := hI.far (p := ⟨b5, 13, none⟩) hg5 (.int .i64 want)
 replace hB := hB.setCell (p := ⟨b5, 13, none⟩) hge5.out (.int .i64 want)
 replace h2 := blk_far (p := ⟨b5, 13, none⟩) h2 h25 (.int .i64 want)
 replace h5 := g1
 clear g0 g1
 go_wp2_with fail
 clear y13 z13
 generalize (v7.setCell ⟨b5, 13, none⟩ (.int .i64 want)) = v5 at *
 rw [show ByteArray.empty ++ num 2 ++ text id ++ num want = p from by rw [hp.out]; simp only [ByteArray.empty_append, ByteArray.append_assoc]] at hI
 refine (rends p hs hI hB).mono ?_
 rintro e' v8 ⟨rfl, hI, hB, hk⟩
 replace h2 := hk.blk h2 hg2.symm (by simp)
 replace h5 := hk.blk h5 hg5.symm (by simp)
 clear hk
 have o0 := (blk_cell h5 0).trans rfl
 have o1 := (blk_cell h5 1).trans rfl
 have o2 := (blk_cell h5 2).trans rfl
 have o3 := (blk_cell h5 3).trans rfl
 have o4 := (blk_cell h5 4).trans rfl
 have o5 := (blk_cell h5 5).trans rfl
 have o6 := (blk_cell h5 6).trans rfl
 have o7 := (blk_cell h5 7).trans rfl
 have o8 := (blk_cell h5 8).trans rfl
 have o9 := (blk_cell h5 9).trans rfl
 have o10 := (blk_cell h5 10).trans rfl
 have o11 := (blk_cell h5 11).trans rfl
 have o12 := (blk_cell h5 12).trans rfl
 have o13 := (blk_cell h5 13).trans rfl
 go_wp2_with fail
 clear o0 o1 o2 o3 o4 o5 o6 o7 o8 o9 o10 o11 o12 o13
 refine (hop.out _).mono ?_
 rintro e' v9 ⟨rfl, hb⟩
 replace h2 := blk_below h2 hb
 replace h5 := blk_below h5 hb
 replace hB := below_then hB hB.size hb
 clear hb
 have o0 := (blk_cell h5 0).trans rfl
 have o1 := (blk_cell h5 1).trans rfl
 have o2 := (blk_cell h5 2).trans rfl
 have o3 := (blk_cell h5 3).trans rfl
 have o4 := (blk_cell h5 4).trans rfl
 have o5 := (blk_cell h5 5).trans rfl
 have o6 := (blk_cell h5 6).trans rfl
 have o7 := (blk_cell h5 7).trans rfl
 have o8 := (blk_cell h5 8).trans rfl
 have o9 := (blk_cell h5 9).trans rfl
 have o10 := (blk_cell h5 10).trans rfl
 have o11 := (blk_cell h5 11).trans rfl
 have o12 := (blk_cell h5 12).trans rfl
 have o13 := (blk_cell h5 13).trans rfl
 have y0 := (blk_cell h2 0).trans rfl
 have z0 := blk_frozen h2 0
 have y1 := (blk_cell h2 1).trans rfl
 have z1 := blk_frozen h2 1
 have y2 := (blk_cell h2 2).trans rfl
 have z2 := blk_frozen h2 2
 have y3 := (blk_cell h2 3).trans rfl
 have z3 := blk_frozen h2 3
 have y4 := (blk_cell h2 4).trans rfl
 have z4 := blk_frozen h2 4
 have y5 := (blk_cell h2 5).trans rfl
 have z5 := blk_frozen h2 5
 have y6 := (blk_cell h2 6).trans rfl
 have z6 := blk_frozen h2 6
 have y7 := (blk_cell h2 7).trans rfl
 have z7 := blk_frozen h2 7
 have y8 := (blk_cell h2 8).trans rfl
 have z8 := blk_frozen h2 8
 have y9 := (blk_cell h2 9).trans rfl
 have z9 := blk_frozen h2 9
 have y10 := (blk_cell h2 10).trans rfl
 have z10 := blk_frozen h2 10
 have y11 := (blk_cell h2 11).trans rfl
 have z11 := blk_frozen h2 11
 have y12 := (blk_cell h2 12).trans rfl
 have z12 := blk_frozen h2 12
 have y13 := (blk_cell h2 13).trans rfl
 have z13 := blk_frozen h2 13
 obtain ⟨hZ9, hG9⟩ := put14 (.int .i64 2) (.string ⟨#[]⟩) (.int .i64 0) (.int .i64 0) (.int .i64 0) (.int .i64 0) (.string ⟨#[]⟩) (.string ⟨#[]⟩) (.int .i64 0) (.int .i64 0) (.string ⟨#[]⟩) (.bool false) (.string id) (.int .i64 want) h2
 replace hZ9 := Lib.hid hZ9
 replace hG9 := Lib.hid hG9
 go_wp2_with fail
 refine bodyPost_ret (results_ct rfl _ _ b2 36 _ (0, 0) _ rfl hZ9.out Tryz.underlying36 rfl (by kernel_rfl)) rfl ?_
 exact ⟨rfl, hB.grown hG9.out hB.size (fun k e => by injection e with e; have := hge2.out; omega)⟩
set_option maxHeartbeats 4000000 in
set_option maxRecDepth 100000 in
theorem getOp_t (k : Int) (hk : k = 3 ∨ k = 5 ∨ k = 6 ∨ k = 7) (x : W) (y : N) (id : ByteArray) (want : Int) (w : World) (hx : okW x) (hy : okN y) (hi : id.size ≤ 200) (hv : In want) (p : ByteArray) (hp : p = (num k ++ text id)) (hop : ∀ W, Calls Tryz.prog 29 #[opV k (gX k x) (gY k y) (gI k id) (gV k want)] W fun e' w' => e' = .returned (.bool true) ∧ Below W.heap.size W w') :
 Calls Tryz.prog 21 #[.string p] w fun e w' => e = .returned (.tuple #[opV k (gX k x) (gY k y) (gI k id) (gV k want), .int .i64 0]) ∧ Below w.heap.size w w' := by
 have hs : p.size ≤ 4611686018427387904 := by
  have u0 := Pw.nsz k
  have u1 := Pw.tsz id hi
  have u2 := Pw.nsz want
  rw [hp]
  (try simp only [ByteArray.size_append])
  omega
 rw [show gX k x = Lk.zW from if_neg (by omega), show gY k y = Lk.zN from if_neg (by omega), show gI k id = id from if_neg (by omega), show gV k want = 0 from if_neg (by omega)] at hop ⊢
 have b1 : (k == 1) = false := beq_eq_false_iff_ne.2 (by omega)
 have c1 : decide (k = 1) = false := decide_eq_false (by omega)
 have b2 : (k == 2) = false := beq_eq_false_iff_ne.2 (by omega)
 have c2 : decide (k = 2) = false := decide_eq_false (by omega)
 have b4 : (k == 4) = false := beq_eq_false_iff_ne.2 (by omega)
 have c4 : decide (k = 4) = false := decide_eq_false (by omega)
 have b8 : (k == 8) = false := beq_eq_false_iff_ne.2 (by omega)
 have c8 : decide (k = 8) = false := decide_eq_false (by omega)
 replace hp := Lib.hid hp
 replace hop := Aside0.mk hop
 have hB := below_alloc (Below.refl w.heap.size w) opZ
 have h2 := blk_new w opZ
 obtain ⟨b2, hb2_⟩ : ∃ b, b = w.heap.size := ⟨_, rfl⟩
 rw [← hb2_] at h2
 have hge2 : w.heap.size ≤ b2 := by omega
 replace hb2_ := Lib.hid hb2_
 replace hge2 := Lib.hid hge2
 go_enter Tryz.func21, Tryz.ntmps21
 go_wp2_with fail
 rw [← hb2_.out]
 revert hB; revert h2
 generalize w.alloc opZ = v0
 intro h2 hB
 refine (varint_New.calls p p 0 false w v0 hB rfl).mono ?_
 rintro e' v1 ⟨g, rfl, hI, hB1, hb, _⟩
 replace h2 := blk_below h2 hb
 clear hB hb
 have hg2 := hI.ne_blk h2 (by decide)
 go_wp2_with fail
 refine (rnum p ByteArray.empty (text id) k (by rw [hp.out]; simp only [ByteArray.empty_append]) ⟨by omega, by omega⟩ hs hI hB1).mono ?_
 rintro e' v2 ⟨rfl, hI, hB, hk⟩
 replace h2 := hk.blk h2 hg2.symm (by simp)
 clear hk
 have h5 := blk_new v2 (.cells #[.int .i64 k, .string ⟨#[]⟩, .int .i64 0, .int .i64 0, .int .i64 0, .int .i64 0, .string ⟨#[]⟩, .string ⟨#[]⟩, .int .i64 0, .int .i64 0, .string ⟨#[]⟩, .bool false, .string ⟨#[]⟩, .int .i64 0] 36)
 have hq := below_alloc (Below.refl v2.heap.size v2) (.cells #[.int .i64 k, .string ⟨#[]⟩, .int .i64 0, .int .i64 0, .int .i64 0, .int .i64 0, .string ⟨#[]⟩, .string ⟨#[]⟩, .int .i64 0, .int .i64 0, .string ⟨#[]⟩, .bool false, .string ⟨#[]⟩, .int .i64 0] 36)
 obtain ⟨b5, hb5_⟩ : ∃ b, b = v2.heap.size := ⟨_, rfl⟩
 have hge5 := Lib.hid (show w.heap.size ≤ b5 by rw [hb5_]; exact hB.size)
 have h25 : b2 ≠ b5 := by rw [hb5_]; exact Nat.ne_of_lt (blk_lt h2)
 rw [← hb5_] at h5
 replace hb5_ := Lib.hid hb5_
 replace h2 := blk_below h2 hq
 replace hI := hI.below hq
 replace hB := below_then hB hB.size hq
 clear hq
 have hg5 := hI.ne_blk h5 (by decide)
 have o0 := (blk_cell h5 0).trans rfl
 go_wp2_with fail
 rw [← hb5_.out]
 generalize v2.alloc (.cells #[.int .i64 k, .string ⟨#[]⟩, .int .i64 0, .int .i64 0, .int .i64 0, .int .i64 0, .string ⟨#[]⟩, .string ⟨#[]⟩, .int .i64 0, .int .i64 0, .string ⟨#[]⟩, .bool false, .string ⟨#[]⟩, .int .i64 0] 36) = v3 at *
 clear o0
 refine (rtext p ((ByteArray.empty ++ num k)) (ByteArray.empty) id (by rw [hp.out]; simp only [ByteArray.empty_append, ByteArray.append_empty, ByteArray.append_assoc]) hi hs hI hB).mono ?_
 rintro e' v4 ⟨rfl, hI, hB, hk⟩
 replace h2 := hk.blk h2 hg2.symm (by simp)
 replace h5 := hk.blk h5 hg5.symm (by simp)
 clear hk
 have y12 := (blk_cell h5 12).trans rfl
 have z12 := blk_frozen h5 12
 have g0 := h5
 have g1 := blk_put g0 12 (.string id) (cs' := #[.int .i64 k, .string ⟨#[]⟩, .int .i64 0, .int .i64 0, .int .i64 0, .int .i64 0, .string ⟨#[]⟩, .string ⟨#[]⟩, .int .i64 0, .int .i64 0, .string ⟨#[]⟩, .bool false, .string id, .int .i64 0]) rfl
 replace hI := hI.far (p := ⟨b5, 12, none⟩) hg5 (.string id)
 replace hB := hB.setCell (p := ⟨b5, 12, none⟩) hge5.out (.string id)
 replace h2 := blk_far (p := ⟨b5, 12, none⟩) h2 h25 (.string id)
 replace h5 := g1
 clear g0 g1
 go_wp2_with fail
 clear y12 z12
 generalize (v4.setCell ⟨b5, 12, none⟩ (.string id)) = v5 at *
 rw [show ByteArray.empty ++ num k ++ text id = p from by rw [hp.out]; simp only [ByteArray.empty_append, ByteArray.append_assoc]] at hI
 refine (rends p hs hI hB).mono ?_
 rintro e' v8 ⟨rfl, hI, hB, hk⟩
 replace h2 := hk.blk h2 hg2.symm (by simp)
 replace h5 := hk.blk h5 hg5.symm (by simp)
 clear hk
 have o0 := (blk_cell h5 0).trans rfl
 have o1 := (blk_cell h5 1).trans rfl
 have o2 := (blk_cell h5 2).trans rfl
 have o3 := (blk_cell h5 3).trans rfl
 have o4 := (blk_cell h5 4).trans rfl
 have o5 := (blk_cell h5 5).trans rfl
 have o6 := (blk_cell h5 6).trans rfl
 have o7 := (blk_cell h5 7).trans rfl
 have o8 := (blk_cell h5 8).trans rfl
 have o9 := (blk_cell h5 9).trans rfl
 have o10 := (blk_cell h5 10).trans rfl
 have o11 := (blk_cell h5 11).trans rfl
 have o12 := (blk_cell h5 12).trans rfl
 have o13 := (blk_cell h5 13).trans rfl
 go_wp2_with fail
 clear o0 o1 o2 o3 o4 o5 o6 o7 o8 o9 o10 o11 o12 o13
 refine (hop.out _).mono ?_
 rintro e' v9 ⟨rfl, hb⟩
 replace h2 := blk_below h2 hb
 replace h5 := blk_below h5 hb
 replace hB := below_then hB hB.size hb
 clear hb
 have o0 := (blk_cell h5 0).trans rfl
 have o1 := (blk_cell h5 1).trans rfl
 have o2 := (blk_cell h5 2).trans rfl
 have o3 := (blk_cell h5 3).trans rfl
 have o4 := (blk_cell h5 4).trans rfl
 have o5 := (blk_cell h5 5).trans rfl
 have o6 := (blk_cell h5 6).trans rfl
 have o7 := (blk_cell h5 7).trans rfl
 have o8 := (blk_cell h5 8).trans rfl
 have o9 := (blk_cell h5 9).trans rfl
 have o10 := (blk_cell h5 10).trans rfl
 have o11 := (blk_cell h5 11).trans rfl
 have o12 := (blk_cell h5 12).trans rfl
 have o13 := (blk_cell h5 13).trans rfl
 have y0 := (blk_cell h2 0).trans rfl
 have z0 := blk_frozen h2 0
 have y1 := (blk_cell h2 1).trans rfl
 have z1 := blk_frozen h2 1
 have y2 := (blk_cell h2 2).trans rfl
 have z2 := blk_frozen h2 2
 have y3 := (blk_cell h2 3).trans rfl
 have z3 := blk_frozen h2 3
 have y4 := (blk_cell h2 4).trans rfl
 have z4 := blk_frozen h2 4
 have y5 := (blk_cell h2 5).trans rfl
 have z5 := blk_frozen h2 5
 have y6 := (blk_cell h2 6).trans rfl
 have z6 := blk_frozen h2 6
 have y7 := (blk_cell h2 7).trans rfl
 have z7 := blk_frozen h2 7
 have y8 := (blk_cell h2 8).trans rfl
 have z8 := blk_frozen h2 8
 have y9 := (blk_cell h2 9).trans rfl
 have z9 := blk_frozen h2 9
 have y10 := (blk_cell h2 10).trans rfl
 have z10 := blk_frozen h2 10
 have y11 := (blk_cell h2 11).trans rfl
 have z11 := blk_frozen h2 11
 have y12 := (blk_cell h2 12).trans rfl
 have z12 := blk_frozen h2 12
 have y13 := (blk_cell h2 13).trans rfl
 have z13 := blk_frozen h2 13
 obtain ⟨hZ9, hG9⟩ := put14 (.int .i64 k) (.string ⟨#[]⟩) (.int .i64 0) (.int .i64 0) (.int .i64 0) (.int .i64 0) (.string ⟨#[]⟩) (.string ⟨#[]⟩) (.int .i64 0) (.int .i64 0) (.string ⟨#[]⟩) (.bool false) (.string id) (.int .i64 0) h2
 replace hZ9 := Lib.hid hZ9
 replace hG9 := Lib.hid hG9
 go_wp2_with fail
 refine bodyPost_ret (results_ct rfl _ _ b2 36 _ (0, 0) _ rfl hZ9.out Tryz.underlying36 rfl (by kernel_rfl)) rfl ?_
 exact ⟨rfl, hB.grown hG9.out hB.size (fun k e => by injection e with e; have := hge2.out; omega)⟩
set_option maxHeartbeats 4000000 in
set_option maxRecDepth 100000 in
theorem getOp_4 (x : W) (y : N) (id : ByteArray) (want : Int) (w : World) (hx : okW x) (hy : okN y) (hi : id.size ≤ 200) (hv : In want) (p : ByteArray) (hp : p = (num 4 ++ nodeB y)) (hop : ∀ W, Calls Tryz.prog 29 #[opV 4 (gX 4 x) (gY 4 y) (gI 4 id) (gV 4 want)] W fun e' w' => e' = .returned (.bool true) ∧ Below W.heap.size W w') :
 Calls Tryz.prog 21 #[.string p] w fun e w' => e = .returned (.tuple #[opV 4 (gX 4 x) (gY 4 y) (gI 4 id) (gV 4 want), .int .i64 0]) ∧ Below w.heap.size w w' := by
 have hs : p.size ≤ 4611686018427387904 := by
  have u0 := Pw.nsz 4
  have u1 := Pw.nosz y hy
  have u2 := Pw.nsz want
  rw [hp]
  (try simp only [ByteArray.size_append])
  omega
 replace hp := Lib.hid hp
 replace hop := Aside0.mk hop
 have hB := below_alloc (Below.refl w.heap.size w) opZ
 have h2 := blk_new w opZ
 obtain ⟨b2, hb2_⟩ : ∃ b, b = w.heap.size := ⟨_, rfl⟩
 rw [← hb2_] at h2
 have hge2 : w.heap.size ≤ b2 := by omega
 replace hb2_ := Lib.hid hb2_
 replace hge2 := Lib.hid hge2
 go_enter Tryz.func21, Tryz.ntmps21
 go_wp2_with fail
 rw [← hb2_.out]
 revert hB; revert h2
 generalize w.alloc opZ = v0
 intro h2 hB
 refine (varint_New.calls p p 0 false w v0 hB rfl).mono ?_
 rintro e' v1 ⟨g, rfl, hI, hB1, hb, _⟩
 replace h2 := blk_below h2 hb
 clear hB hb
 have hg2 := hI.ne_blk h2 (by decide)
 go_wp2_with fail
 refine (rnum p ByteArray.empty (nodeB y) 4 (by rw [hp.out]; simp only [ByteArray.empty_append]) ⟨by decide, by decide⟩ hs hI hB1).mono ?_
 rintro e' v2 ⟨rfl, hI, hB, hk⟩
 replace h2 := hk.blk h2 hg2.symm (by simp)
 clear hk
 have h5 := blk_new v2 (.cells #[.int .i64 4, .string ⟨#[]⟩, .int .i64 0, .int .i64 0, .int .i64 0, .int .i64 0, .string ⟨#[]⟩, .string ⟨#[]⟩, .int .i64 0, .int .i64 0, .string ⟨#[]⟩, .bool false, .string ⟨#[]⟩, .int .i64 0] 36)
 have hq := below_alloc (Below.refl v2.heap.size v2) (.cells #[.int .i64 4, .string ⟨#[]⟩, .int .i64 0, .int .i64 0, .int .i64 0, .int .i64 0, .string ⟨#[]⟩, .string ⟨#[]⟩, .int .i64 0, .int .i64 0, .string ⟨#[]⟩, .bool false, .string ⟨#[]⟩, .int .i64 0] 36)
 obtain ⟨b5, hb5_⟩ : ∃ b, b = v2.heap.size := ⟨_, rfl⟩
 have hge5 := Lib.hid (show w.heap.size ≤ b5 by rw [hb5_]; exact hB.size)
 have h25 : b2 ≠ b5 := by rw [hb5_]; exact Nat.ne_of_lt (blk_lt h2)
 rw [← hb5_] at h5
 replace hb5_ := Lib.hid hb5_
 replace h2 := blk_below h2 hq
 replace hI := hI.below hq
 replace hB := below_then hB hB.size hq
 clear hq
 have hg5 := hI.ne_blk h5 (by decide)
 have o0 := (blk_cell h5 0).trans rfl
 go_wp2_with fail
 rw [← hb5_.out]
 generalize v2.alloc (.cells #[.int .i64 4, .string ⟨#[]⟩, .int .i64 0, .int .i64 0, .int .i64 0, .int .i64 0, .string ⟨#[]⟩, .string ⟨#[]⟩, .int .i64 0, .int .i64 0, .string ⟨#[]⟩, .bool false, .string ⟨#[]⟩, .int .i64 0] 36) = v3 at *
 clear o0
 refine (getNode_at p ((ByteArray.empty ++ num 4)) ByteArray.empty y (by rw [hp.out]; simp only [ByteArray.empty_append, ByteArray.append_empty]) hy hs hI hB).mono ?_
 rintro e' v4 ⟨rfl, hI, hB, hk⟩
 replace h2 := hk.blk h2 hg2.symm (by simp)
 replace h5 := hk.blk h5 hg5.symm (by simp)
 clear hk
 have y7 := (blk_cell h5 7).trans rfl
 have z7 := blk_frozen h5 7
 have y8 := (blk_cell h5 8).trans rfl
 have z8 := blk_frozen h5 8
 have y9 := (blk_cell h5 9).trans rfl
 have z9 := blk_frozen h5 9
 have y10 := (blk_cell h5 10).trans rfl
 have z10 := blk_frozen h5 10
 have y11 := (blk_cell h5 11).trans rfl
 have z11 := blk_frozen h5 11
 have g0 := h5
 have g1 := blk_put g0 7 (.string y.f0) (cs' := #[.int .i64 4, .string ⟨#[]⟩, .int .i64 0, .int .i64 0, .int .i64 0, .int .i64 0, .string ⟨#[]⟩, .string y.f0, .int .i64 0, .int .i64 0, .string ⟨#[]⟩, .bool false, .string ⟨#[]⟩, .int .i64 0]) rfl
 replace hI := hI.far (p := ⟨b5, 7, none⟩) hg5 (.string y.f0)
 replace hB := hB.setCell (p := ⟨b5, 7, none⟩) hge5.out (.string y.f0)
 replace h2 := blk_far (p := ⟨b5, 7, none⟩) h2 h25 (.string y.f0)
 have g2 := blk_put g1 8 (.int .i64 y.f1) (cs' := #[.int .i64 4, .string ⟨#[]⟩, .int .i64 0, .int .i64 0, .int .i64 0, .int .i64 0, .string ⟨#[]⟩, .string y.f0, .int .i64 y.f1, .int .i64 0, .string ⟨#[]⟩, .bool false, .string ⟨#[]⟩, .int .i64 0]) rfl
 replace hI := hI.far (p := ⟨b5, 8, none⟩) hg5 (.int .i64 y.f1)
 replace hB := hB.setCell (p := ⟨b5, 8, none⟩) hge5.out (.int .i64 y.f1)
 replace h2 := blk_far (p := ⟨b5, 8, none⟩) h2 h25 (.int .i64 y.f1)
 have g3 := blk_put g2 9 (.int .i64 y.f2) (cs' := #[.int .i64 4, .string ⟨#[]⟩, .int .i64 0, .int .i64 0, .int .i64 0, .int .i64 0, .string ⟨#[]⟩, .string y.f0, .int .i64 y.f1, .int .i64 y.f2, .string ⟨#[]⟩, .bool false, .string ⟨#[]⟩, .int .i64 0]) rfl
 replace hI := hI.far (p := ⟨b5, 9, none⟩) hg5 (.int .i64 y.f2)
 replace hB := hB.setCell (p := ⟨b5, 9, none⟩) hge5.out (.int .i64 y.f2)
 replace h2 := blk_far (p := ⟨b5, 9, none⟩) h2 h25 (.int .i64 y.f2)
 have g4 := blk_put g3 10 (.string y.f3) (cs' := #[.int .i64 4, .string ⟨#[]⟩, .int .i64 0, .int .i64 0, .int .i64 0, .int .i64 0, .string ⟨#[]⟩, .string y.f0, .int .i64 y.f1, .int .i64 y.f2, .string y.f3, .bool false, .string ⟨#[]⟩, .int .i64 0]) rfl
 replace hI := hI.far (p := ⟨b5, 10, none⟩) hg5 (.string y.f3)
 replace hB := hB.setCell (p := ⟨b5, 10, none⟩) hge5.out (.string y.f3)
 replace h2 := blk_far (p := ⟨b5, 10, none⟩) h2 h25 (.string y.f3)
 have g5 := blk_put g4 11 (.bool y.f4) (cs' := #[.int .i64 4, .string ⟨#[]⟩, .int .i64 0, .int .i64 0, .int .i64 0, .int .i64 0, .string ⟨#[]⟩, .string y.f0, .int .i64 y.f1, .int .i64 y.f2, .string y.f3, .bool y.f4, .string ⟨#[]⟩, .int .i64 0]) rfl
 replace hI := hI.far (p := ⟨b5, 11, none⟩) hg5 (.bool y.f4)
 replace hB := hB.setCell (p := ⟨b5, 11, none⟩) hge5.out (.bool y.f4)
 replace h2 := blk_far (p := ⟨b5, 11, none⟩) h2 h25 (.bool y.f4)
 replace h5 := g5
 clear g0 g1 g2 g3 g4 g5
 go_wp2_with fail
 clear y7 z7 y8 z8 y9 z9 y10 z10 y11 z11
 generalize (((((v4.setCell ⟨b5, 7, none⟩ (.string y.f0)).setCell ⟨b5, 8, none⟩ (.int .i64 y.f1)).setCell ⟨b5, 9, none⟩ (.int .i64 y.f2)).setCell ⟨b5, 10, none⟩ (.string y.f3)).setCell ⟨b5, 11, none⟩ (.bool y.f4)) = v5 at *
 rw [show ByteArray.empty ++ num 4 ++ nodeB y = p from by rw [hp.out]; simp only [ByteArray.empty_append, ByteArray.append_assoc]] at hI
 refine (rends p hs hI hB).mono ?_
 rintro e' v8 ⟨rfl, hI, hB, hk⟩
 replace h2 := hk.blk h2 hg2.symm (by simp)
 replace h5 := hk.blk h5 hg5.symm (by simp)
 clear hk
 have o0 := (blk_cell h5 0).trans rfl
 have o1 := (blk_cell h5 1).trans rfl
 have o2 := (blk_cell h5 2).trans rfl
 have o3 := (blk_cell h5 3).trans rfl
 have o4 := (blk_cell h5 4).trans rfl
 have o5 := (blk_cell h5 5).trans rfl
 have o6 := (blk_cell h5 6).trans rfl
 have o7 := (blk_cell h5 7).trans rfl
 have o8 := (blk_cell h5 8).trans rfl
 have o9 := (blk_cell h5 9).trans rfl
 have o10 := (blk_cell h5 10).trans rfl
 have o11 := (blk_cell h5 11).trans rfl
 have o12 := (blk_cell h5 12).trans rfl
 have o13 := (blk_cell h5 13).trans rfl
 go_wp2_with fail
 clear o0 o1 o2 o3 o4 o5 o6 o7 o8 o9 o10 o11 o12 o13
 refine (hop.out _).mono ?_
 rintro e' v9 ⟨rfl, hb⟩
 replace h2 := blk_below h2 hb
 replace h5 := blk_below h5 hb
 replace hB := below_then hB hB.size hb
 clear hb
 have o0 := (blk_cell h5 0).trans rfl
 have o1 := (blk_cell h5 1).trans rfl
 have o2 := (blk_cell h5 2).trans rfl
 have o3 := (blk_cell h5 3).trans rfl
 have o4 := (blk_cell h5 4).trans rfl
 have o5 := (blk_cell h5 5).trans rfl
 have o6 := (blk_cell h5 6).trans rfl
 have o7 := (blk_cell h5 7).trans rfl
 have o8 := (blk_cell h5 8).trans rfl
 have o9 := (blk_cell h5 9).trans rfl
 have o10 := (blk_cell h5 10).trans rfl
 have o11 := (blk_cell h5 11).trans rfl
 have o12 := (blk_cell h5 12).trans rfl
 have o13 := (blk_cell h5 13).trans rfl
 have y0 := (blk_cell h2 0).trans rfl
 have z0 := blk_frozen h2 0
 have y1 := (blk_cell h2 1).trans rfl
 have z1 := blk_frozen h2 1
 have y2 := (blk_cell h2 2).trans rfl
 have z2 := blk_frozen h2 2
 have y3 := (blk_cell h2 3).trans rfl
 have z3 := blk_frozen h2 3
 have y4 := (blk_cell h2 4).trans rfl
 have z4 := blk_frozen h2 4
 have y5 := (blk_cell h2 5).trans rfl
 have z5 := blk_frozen h2 5
 have y6 := (blk_cell h2 6).trans rfl
 have z6 := blk_frozen h2 6
 have y7 := (blk_cell h2 7).trans rfl
 have z7 := blk_frozen h2 7
 have y8 := (blk_cell h2 8).trans rfl
 have z8 := blk_frozen h2 8
 have y9 := (blk_cell h2 9).trans rfl
 have z9 := blk_frozen h2 9
 have y10 := (blk_cell h2 10).trans rfl
 have z10 := blk_frozen h2 10
 have y11 := (blk_cell h2 11).trans rfl
 have z11 := blk_frozen h2 11
 have y12 := (blk_cell h2 12).trans rfl
 have z12 := blk_frozen h2 12
 have y13 := (blk_cell h2 13).trans rfl
 have z13 := blk_frozen h2 13
 obtain ⟨hZ9, hG9⟩ := put14 (.int .i64 4) (.string ⟨#[]⟩) (.int .i64 0) (.int .i64 0) (.int .i64 0) (.int .i64 0) (.string ⟨#[]⟩) (.string y.f0) (.int .i64 y.f1) (.int .i64 y.f2) (.string y.f3) (.bool y.f4) (.string ⟨#[]⟩) (.int .i64 0) h2
 replace hZ9 := Lib.hid hZ9
 replace hG9 := Lib.hid hG9
 go_wp2_with fail
 refine bodyPost_ret (results_ct rfl _ _ b2 36 _ (0, 0) _ rfl hZ9.out Tryz.underlying36 rfl (by kernel_rfl)) rfl ?_
 exact ⟨rfl, hB.grown hG9.out hB.size (fun k e => by injection e with e; have := hge2.out; omega)⟩
set_option maxHeartbeats 4000000 in
set_option maxRecDepth 100000 in
theorem getOp_8 (x : W) (y : N) (id : ByteArray) (want : Int) (w : World) (hx : okW x) (hy : okN y) (hi : id.size ≤ 200) (hv : In want) (p : ByteArray) (hp : p = (num 8)) (hop : ∀ W, Calls Tryz.prog 29 #[opV 8 (gX 8 x) (gY 8 y) (gI 8 id) (gV 8 want)] W fun e' w' => e' = .returned (.bool true) ∧ Below W.heap.size W w') :
 Calls Tryz.prog 21 #[.string p] w fun e w' => e = .returned (.tuple #[opV 8 (gX 8 x) (gY 8 y) (gI 8 id) (gV 8 want), .int .i64 0]) ∧ Below w.heap.size w w' := by
 have hs : p.size ≤ 4611686018427387904 := by
  have u0 := Pw.nsz 8
  have u1 := trivial
  have u2 := Pw.nsz want
  rw [hp]
  (try simp only [ByteArray.size_append])
  omega
 replace hp := Lib.hid hp
 replace hop := Aside0.mk hop
 have hB := below_alloc (Below.refl w.heap.size w) opZ
 have h2 := blk_new w opZ
 obtain ⟨b2, hb2_⟩ : ∃ b, b = w.heap.size := ⟨_, rfl⟩
 rw [← hb2_] at h2
 have hge2 : w.heap.size ≤ b2 := by omega
 replace hb2_ := Lib.hid hb2_
 replace hge2 := Lib.hid hge2
 go_enter Tryz.func21, Tryz.ntmps21
 go_wp2_with fail
 rw [← hb2_.out]
 revert hB; revert h2
 generalize w.alloc opZ = v0
 intro h2 hB
 refine (varint_New.calls p p 0 false w v0 hB rfl).mono ?_
 rintro e' v1 ⟨g, rfl, hI, hB1, hb, _⟩
 replace h2 := blk_below h2 hb
 clear hB hb
 have hg2 := hI.ne_blk h2 (by decide)
 go_wp2_with fail
 refine (rnum p ByteArray.empty (ByteArray.empty) 8 (by rw [hp.out]; simp only [ByteArray.empty_append, ByteArray.append_empty]) ⟨by decide, by decide⟩ hs hI hB1).mono ?_
 rintro e' v2 ⟨rfl, hI, hB, hk⟩
 replace h2 := hk.blk h2 hg2.symm (by simp)
 clear hk
 have h5 := blk_new v2 (.cells #[.int .i64 8, .string ⟨#[]⟩, .int .i64 0, .int .i64 0, .int .i64 0, .int .i64 0, .string ⟨#[]⟩, .string ⟨#[]⟩, .int .i64 0, .int .i64 0, .string ⟨#[]⟩, .bool false, .string ⟨#[]⟩, .int .i64 0] 36)
 have hq := below_alloc (Below.refl v2.heap.size v2) (.cells #[.int .i64 8, .string ⟨#[]⟩, .int .i64 0, .int .i64 0, .int .i64 0, .int .i64 0, .string ⟨#[]⟩, .string ⟨#[]⟩, .int .i64 0, .int .i64 0, .string ⟨#[]⟩, .bool false, .string ⟨#[]⟩, .int .i64 0] 36)
 obtain ⟨b5, hb5_⟩ : ∃ b, b = v2.heap.size := ⟨_, rfl⟩
 have hge5 := Lib.hid (show w.heap.size ≤ b5 by rw [hb5_]; exact hB.size)
 have h25 : b2 ≠ b5 := by rw [hb5_]; exact Nat.ne_of_lt (blk_lt h2)
 rw [← hb5_] at h5
 replace hb5_ := Lib.hid hb5_
 replace h2 := blk_below h2 hq
 replace hI := hI.below hq
 replace hB := below_then hB hB.size hq
 clear hq
 have hg5 := hI.ne_blk h5 (by decide)
 have o0 := (blk_cell h5 0).trans rfl
 go_wp2_with fail
 rw [← hb5_.out]
 generalize v2.alloc (.cells #[.int .i64 8, .string ⟨#[]⟩, .int .i64 0, .int .i64 0, .int .i64 0, .int .i64 0, .string ⟨#[]⟩, .string ⟨#[]⟩, .int .i64 0, .int .i64 0, .string ⟨#[]⟩, .bool false, .string ⟨#[]⟩, .int .i64 0] 36) = v5 at *
 clear o0
 rw [show ByteArray.empty ++ num 8 = p from by rw [hp.out]; simp only [ByteArray.empty_append, ByteArray.append_assoc]] at hI
 refine (rends p hs hI hB).mono ?_
 rintro e' v8 ⟨rfl, hI, hB, hk⟩
 replace h2 := hk.blk h2 hg2.symm (by simp)
 replace h5 := hk.blk h5 hg5.symm (by simp)
 clear hk
 have o0 := (blk_cell h5 0).trans rfl
 have o1 := (blk_cell h5 1).trans rfl
 have o2 := (blk_cell h5 2).trans rfl
 have o3 := (blk_cell h5 3).trans rfl
 have o4 := (blk_cell h5 4).trans rfl
 have o5 := (blk_cell h5 5).trans rfl
 have o6 := (blk_cell h5 6).trans rfl
 have o7 := (blk_cell h5 7).trans rfl
 have o8 := (blk_cell h5 8).trans rfl
 have o9 := (blk_cell h5 9).trans rfl
 have o10 := (blk_cell h5 10).trans rfl
 have o11 := (blk_cell h5 11).trans rfl
 have o12 := (blk_cell h5 12).trans rfl
 have o13 := (blk_cell h5 13).trans rfl
 go_wp2_with fail
 clear o0 o1 o2 o3 o4 o5 o6 o7 o8 o9 o10 o11 o12 o13
 refine (hop.out _).mono ?_
 rintro e' v9 ⟨rfl, hb⟩
 replace h2 := blk_below h2 hb
 replace h5 := blk_below h5 hb
 replace hB := below_then hB hB.size hb
 clear hb
 have o0 := (blk_cell h5 0).trans rfl
 have o1 := (blk_cell h5 1).trans rfl
 have o2 := (blk_cell h5 2).trans rfl
 have o3 := (blk_cell h5 3).trans rfl
 have o4 := (blk_cell h5 4).trans rfl
 have o5 := (blk_cell h5 5).trans rfl
 have o6 := (blk_cell h5 6).trans rfl
 have o7 := (blk_cell h5 7).trans rfl
 have o8 := (blk_cell h5 8).trans rfl
 have o9 := (blk_cell h5 9).trans rfl
 have o10 := (blk_cell h5 10).trans rfl
 have o11 := (blk_cell h5 11).trans rfl
 have o12 := (blk_cell h5 12).trans rfl
 have o13 := (blk_cell h5 13).trans rfl
 have y0 := (blk_cell h2 0).trans rfl
 have z0 := blk_frozen h2 0
 have y1 := (blk_cell h2 1).trans rfl
 have z1 := blk_frozen h2 1
 have y2 := (blk_cell h2 2).trans rfl
 have z2 := blk_frozen h2 2
 have y3 := (blk_cell h2 3).trans rfl
 have z3 := blk_frozen h2 3
 have y4 := (blk_cell h2 4).trans rfl
 have z4 := blk_frozen h2 4
 have y5 := (blk_cell h2 5).trans rfl
 have z5 := blk_frozen h2 5
 have y6 := (blk_cell h2 6).trans rfl
 have z6 := blk_frozen h2 6
 have y7 := (blk_cell h2 7).trans rfl
 have z7 := blk_frozen h2 7
 have y8 := (blk_cell h2 8).trans rfl
 have z8 := blk_frozen h2 8
 have y9 := (blk_cell h2 9).trans rfl
 have z9 := blk_frozen h2 9
 have y10 := (blk_cell h2 10).trans rfl
 have z10 := blk_frozen h2 10
 have y11 := (blk_cell h2 11).trans rfl
 have z11 := blk_frozen h2 11
 have y12 := (blk_cell h2 12).trans rfl
 have z12 := blk_frozen h2 12
 have y13 := (blk_cell h2 13).trans rfl
 have z13 := blk_frozen h2 13
 obtain ⟨hZ9, hG9⟩ := put14 (.int .i64 8) (.string ⟨#[]⟩) (.int .i64 0) (.int .i64 0) (.int .i64 0) (.int .i64 0) (.string ⟨#[]⟩) (.string ⟨#[]⟩) (.int .i64 0) (.int .i64 0) (.string ⟨#[]⟩) (.bool false) (.string ⟨#[]⟩) (.int .i64 0) h2
 replace hZ9 := Lib.hid hZ9
 replace hG9 := Lib.hid hG9
 go_wp2_with fail
 refine bodyPost_ret (results_ct rfl _ _ b2 36 _ (0, 0) _ rfl hZ9.out Tryz.underlying36 rfl (by kernel_rfl)) rfl ?_
 exact ⟨rfl, hB.grown hG9.out hB.size (fun k e => by injection e with e; have := hge2.out; omega)⟩
end Go.Proofs.YtldlkbjbfgieeaaGreatDoor.Gop
