/- intent.getWork, getNode, GetOp: what was laid is taken up. -/
/- thin -/
import Derived.Test.YtldlkbjbfgieeaaGreatDoorPk
import Derived.Test.YtldlkbjbfgieeaaGreatDoorVrn
import Derived.Test.YtldlkbjbfgieeaaGreatDoorQx121
import Derived.Test.YtldlkbjbfgieeaaGreatDoorAp
import Derived.Test.YtldlkbjbfgieeaaGreatDoorMo
namespace Go.Proofs.YtldlkbjbfgieeaaGreatDoor.Gw
set_option linter.unusedVariables false
set_option linter.unusedSimpArgs false
open Go.RowKit Go.Proofs.YtldlkbjbfgieeaaGreatDoorW.PrintWords Go.Proofs.YtldlkbjbfgieeaaGreatDoorW.PrintLast Mo Q Go.Proofs.YtldlkbjbfgieeaaGreatDoor.Num Giv Ch Ap Pk
open Go.Proofs.YtldlkbjbfgieeaaGreatDoor.Ri (rightO rightW rightN)
abbrev Rd (w0 w' : World) (g : Nat) (p : ByteArray) (a : Nat) : Prop := IsS121 w0 w' g p (a : Int) false
theorem rnum {w0 w : World} {g : Nat} (p a q : ByteArray) (x : Int) (hp : p = a ++ num x ++ q) (hx : In x) (hs : p.size ≤ 4611686018427387904) (hI : Rd w0 w g p a.size) (hB : Below w0.heap.size w0 w) :
 Calls Tryz.prog 54 #[.pointer (some ⟨g, 0, none⟩)] w fun e w' => e = .returned (.int .i64 x) ∧ Rd w0 w' g p (a ++ num x).size ∧ Below w0.heap.size w0 w' ∧ KeepBut w w' g none :=
 varint_Reader_Num.calls 40 g p a.size false x p _ false w0 w hI hB (Vrd.Num_at p a q x hs hx.1 hx.2 hp 40 (by omega))
theorem rtext {w0 w : World} {g : Nat} (p a q s : ByteArray) (hp : p = a ++ text s ++ q) (hx : s.size ≤ 200) (hs : p.size ≤ 4611686018427387904) (hI : Rd w0 w g p a.size) (hB : Below w0.heap.size w0 w) :
 Calls Tryz.prog 57 #[.pointer (some ⟨g, 0, none⟩), .int .i64 200] w fun e w' => e = .returned (.string s) ∧ Rd w0 w' g p (a ++ text s).size ∧ Below w0.heap.size w0 w' ∧ KeepBut w w' g none :=
 varint_Reader_Text.calls 40 g p a.size false 200 s p _ false w0 w hI hB (Vrd.Text_at p a s q 200 hs hp (by omega) 40 (by omega))
theorem rends {w0 w : World} {g : Nat} (p : ByteArray) (hs : p.size ≤ 4611686018427387904) (hI : Rd w0 w g p p.size) (hB : Below w0.heap.size w0 w) :
 Calls Tryz.prog 58 #[.pointer (some ⟨g, 0, none⟩)] w fun e w' => e = .returned (.bool true) ∧ Rd w0 w' g p p.size ∧ Below w0.heap.size w0 w' ∧ KeepBut w w' g none :=
 varint_Reader_Ends.calls g p p.size false true p p.size false w0 w hI hB (by
  unfold varint_Reader_Ends.f
  rw [if_neg (by simp), Vrd.left_eq p p.size false (Nat.le_refl _) hs]
  simp)
set_option maxHeartbeats 4000000 in
set_option maxRecDepth 100000 in
theorem getWork_at {w0 w : World} {g : Nat} (p a q : ByteArray) (x : W) (hp : p = a ++ workB x ++ q) (hx : okW x) (hs : p.size ≤ 4611686018427387904) (hI : Rd w0 w g p a.size) (hB : Below w0.heap.size w0 w) :
 Calls Tryz.prog 55 #[.pointer (some ⟨g, 0, none⟩)] w fun e w' => e = .returned (.agg #[.string x.f0, .int .i64 x.f1, .int .i64 x.f2, .int .i64 x.f3, .int .i64 x.f4, .string x.f5]) ∧ Rd w0 w' g p (a ++ workB x).size ∧ Below w0.heap.size w0 w' ∧ KeepBut w w' g none := by
 obtain ⟨x0, x1, x2, x3, x4, x5⟩ := hx
 have hBs := hB.size
 replace hI := hI.alloc (.cells #[.string ⟨#[]⟩, .int .i64 0, .int .i64 0, .int .i64 0, .int .i64 0, .string ⟨#[]⟩] 32)
 replace hB := below_alloc hB (.cells #[.string ⟨#[]⟩, .int .i64 0, .int .i64 0, .int .i64 0, .int .i64 0, .string ⟨#[]⟩] 32)
 have hK := keep_alloc (KeepBut.refl w g none) (.cells #[.string ⟨#[]⟩, .int .i64 0, .int .i64 0, .int .i64 0, .int .i64 0, .string ⟨#[]⟩] 32)
 have hO := blk_new w (.cells #[.string ⟨#[]⟩, .int .i64 0, .int .i64 0, .int .i64 0, .int .i64 0, .string ⟨#[]⟩] 32)
 have hgb := hI.ne_blk hO (by decide)
 obtain ⟨b, hb_⟩ : ∃ b, b = w.heap.size := ⟨_, rfl⟩
 rw [← hb_] at hO hgb
 have hge : w.heap.size ≤ b := by omega
 have hge0 : w0.heap.size ≤ b := by rw [hb_]; exact hBs
 replace hb_ := Lib.hid hb_
 go_enter Tryz.func55, Tryz.ntmps55
 go_wp2_with fail
 rw [← hb_.out]
 revert hI; revert hB; revert hK; revert hO
 generalize w.alloc (.cells #[.string ⟨#[]⟩, .int .i64 0, .int .i64 0, .int .i64 0, .int .i64 0, .string ⟨#[]⟩] 32) = v_
 intro hO hK hB hI
 refine (rtext p (a) (num x.f1 ++ (num x.f2 ++ (num x.f3 ++ (num x.f4 ++ (text x.f5 ++ (q)))))) x.f0 (by rw [hp]; simp only [workB, nodeB, ByteArray.append_assoc]) x0 hs hI hB).mono ?_
 rintro e' u0 ⟨rfl, hI2, hB2, hk⟩
 clear hI hB
 replace hO := hk.blk hO hgb.symm (by simp)
 replace hK := hK.trans hk (.inl rfl)
 have y := (blk_cell hO 0).trans rfl
 have z := blk_frozen hO 0
 have hO2 := blk_put hO 0 (.string x.f0) (cs' := #[.string x.f0, .int .i64 0, .int .i64 0, .int .i64 0, .int .i64 0, .string ⟨#[]⟩]) rfl
 have hI := hI2.far (p := ⟨b, 0, none⟩) hgb (.string x.f0)
 have hB := hB2.setCell (p := ⟨b, 0, none⟩) hge0 (.string x.f0)
 replace hK := keep_far hK (p := ⟨b, 0, none⟩) hge (.string x.f0)
 clear hI2 hB2 hk hO
 go_wp2_with fail
 clear y z
 have hO := hO2
 clear hO2
 generalize u0.setCell ⟨b, 0, none⟩ (.string x.f0) = v0 at *
 refine (rnum p (a ++ text x.f0) (num x.f2 ++ (num x.f3 ++ (num x.f4 ++ (text x.f5 ++ (q))))) x.f1 (by rw [hp]; simp only [workB, nodeB, ByteArray.append_assoc]) x1 hs hI hB).mono ?_
 rintro e' u1 ⟨rfl, hI2, hB2, hk⟩
 clear hI hB
 replace hO := hk.blk hO hgb.symm (by simp)
 replace hK := hK.trans hk (.inl rfl)
 have y := (blk_cell hO 1).trans rfl
 have z := blk_frozen hO 1
 have hO2 := blk_put hO 1 (.int .i64 x.f1) (cs' := #[.string x.f0, .int .i64 x.f1, .int .i64 0, .int .i64 0, .int .i64 0, .string ⟨#[]⟩]) rfl
 have hI := hI2.far (p := ⟨b, 1, none⟩) hgb (.int .i64 x.f1)
 have hB := hB2.setCell (p := ⟨b, 1, none⟩) hge0 (.int .i64 x.f1)
 replace hK := keep_far hK (p := ⟨b, 1, none⟩) hge (.int .i64 x.f1)
 clear hI2 hB2 hk hO
 go_wp2_with fail
 clear y z
 have hO := hO2
 clear hO2
 generalize u1.setCell ⟨b, 1, none⟩ (.int .i64 x.f1) = v1 at *
 refine (rnum p (a ++ text x.f0 ++ num x.f1) (num x.f3 ++ (num x.f4 ++ (text x.f5 ++ (q)))) x.f2 (by rw [hp]; simp only [workB, nodeB, ByteArray.append_assoc]) x2 hs hI hB).mono ?_
 rintro e' u2 ⟨rfl, hI2, hB2, hk⟩
 clear hI hB
 replace hO := hk.blk hO hgb.symm (by simp)
 replace hK := hK.trans hk (.inl rfl)
 have y := (blk_cell hO 2).trans rfl
 have z := blk_frozen hO 2
 have hO2 := blk_put hO 2 (.int .i64 x.f2) (cs' := #[.string x.f0, .int .i64 x.f1, .int .i64 x.f2, .int .i64 0, .int .i64 0, .string ⟨#[]⟩]) rfl
 have hI := hI2.far (p := ⟨b, 2, none⟩) hgb (.int .i64 x.f2)
 have hB := hB2.setCell (p := ⟨b, 2, none⟩) hge0 (.int .i64 x.f2)
 replace hK := keep_far hK (p := ⟨b, 2, none⟩) hge (.int .i64 x.f2)
 clear hI2 hB2 hk hO
 go_wp2_with fail
 clear y z
 have hO := hO2
 clear hO2
 generalize u2.setCell ⟨b, 2, none⟩ (.int .i64 x.f2) = v2 at *
 refine (rnum p (a ++ text x.f0 ++ num x.f1 ++ num x.f2) (num x.f4 ++ (text x.f5 ++ (q))) x.f3 (by rw [hp]; simp only [workB, nodeB, ByteArray.append_assoc]) x3 hs hI hB).mono ?_
 rintro e' u3 ⟨rfl, hI2, hB2, hk⟩
 clear hI hB
 replace hO := hk.blk hO hgb.symm (by simp)
 replace hK := hK.trans hk (.inl rfl)
 have y := (blk_cell hO 3).trans rfl
 have z := blk_frozen hO 3
 have hO2 := blk_put hO 3 (.int .i64 x.f3) (cs' := #[.string x.f0, .int .i64 x.f1, .int .i64 x.f2, .int .i64 x.f3, .int .i64 0, .string ⟨#[]⟩]) rfl
 have hI := hI2.far (p := ⟨b, 3, none⟩) hgb (.int .i64 x.f3)
 have hB := hB2.setCell (p := ⟨b, 3, none⟩) hge0 (.int .i64 x.f3)
 replace hK := keep_far hK (p := ⟨b, 3, none⟩) hge (.int .i64 x.f3)
 clear hI2 hB2 hk hO
 go_wp2_with fail
 clear y z
 have hO := hO2
 clear hO2
 generalize u3.setCell ⟨b, 3, none⟩ (.int .i64 x.f3) = v3 at *
 refine (rnum p (a ++ text x.f0 ++ num x.f1 ++ num x.f2 ++ num x.f3) (text x.f5 ++ (q)) x.f4 (by rw [hp]; simp only [workB, nodeB, ByteArray.append_assoc]) x4 hs hI hB).mono ?_
 rintro e' u4 ⟨rfl, hI2, hB2, hk⟩
 clear hI hB
 replace hO := hk.blk hO hgb.symm (by simp)
 replace hK := hK.trans hk (.inl rfl)
 have y := (blk_cell hO 4).trans rfl
 have z := blk_frozen hO 4
 have hO2 := blk_put hO 4 (.int .i64 x.f4) (cs' := #[.string x.f0, .int .i64 x.f1, .int .i64 x.f2, .int .i64 x.f3, .int .i64 x.f4, .string ⟨#[]⟩]) rfl
 have hI := hI2.far (p := ⟨b, 4, none⟩) hgb (.int .i64 x.f4)
 have hB := hB2.setCell (p := ⟨b, 4, none⟩) hge0 (.int .i64 x.f4)
 replace hK := keep_far hK (p := ⟨b, 4, none⟩) hge (.int .i64 x.f4)
 clear hI2 hB2 hk hO
 go_wp2_with fail
 clear y z
 have hO := hO2
 clear hO2
 generalize u4.setCell ⟨b, 4, none⟩ (.int .i64 x.f4) = v4 at *
 refine (rtext p (a ++ text x.f0 ++ num x.f1 ++ num x.f2 ++ num x.f3 ++ num x.f4) (q) x.f5 (by rw [hp]; simp only [workB, nodeB, ByteArray.append_assoc]) x5 hs hI hB).mono ?_
 rintro e' u5 ⟨rfl, hI2, hB2, hk⟩
 clear hI hB
 replace hO := hk.blk hO hgb.symm (by simp)
 replace hK := hK.trans hk (.inl rfl)
 have y := (blk_cell hO 5).trans rfl
 have z := blk_frozen hO 5
 have hO2 := blk_put hO 5 (.string x.f5) (cs' := #[.string x.f0, .int .i64 x.f1, .int .i64 x.f2, .int .i64 x.f3, .int .i64 x.f4, .string x.f5]) rfl
 have hI := hI2.far (p := ⟨b, 5, none⟩) hgb (.string x.f5)
 have hB := hB2.setCell (p := ⟨b, 5, none⟩) hge0 (.string x.f5)
 replace hK := keep_far hK (p := ⟨b, 5, none⟩) hge (.string x.f5)
 clear hI2 hB2 hk hO
 go_wp2_with fail
 clear y z
 have hO := hO2
 clear hO2
 refine bodyPost_ret (results_cell_row rfl _ _ b 32 _ (0, 0) _ rfl hO Tryz.underlying32 rfl (by kernel_rfl)) rfl ?_
 exact ⟨rfl, by rw [show a ++ workB x = a ++ text x.f0 ++ num x.f1 ++ num x.f2 ++ num x.f3 ++ num x.f4 ++ text x.f5 from by simp only [workB, ByteArray.append_assoc]]; exact hI, hB, hK⟩
set_option maxHeartbeats 4000000 in
set_option maxRecDepth 100000 in
theorem getNode_at {w0 w : World} {g : Nat} (p a q : ByteArray) (x : N) (hp : p = a ++ nodeB x ++ q) (hx : okN x) (hs : p.size ≤ 4611686018427387904) (hI : Rd w0 w g p a.size) (hB : Below w0.heap.size w0 w) :
 Calls Tryz.prog 56 #[.pointer (some ⟨g, 0, none⟩)] w fun e w' => e = .returned (.tuple #[.agg #[.string x.f0, .int .i64 x.f1, .int .i64 x.f2, .string x.f3, .bool x.f4], .bool true]) ∧ Rd w0 w' g p (a ++ nodeB x).size ∧ Below w0.heap.size w0 w' ∧ KeepBut w w' g none := by
 obtain ⟨x0, x1, x2, x3⟩ := hx
 obtain ⟨r, hr⟩ : ∃ r, r = (a ++ nodeB x).size := ⟨_, rfl⟩
 rw [← hr]
 replace hr := Lib.hid hr
 have hBs := hB.size
 replace hI := hI.alloc (.cells #[.string ⟨#[]⟩, .int .i64 0, .int .i64 0, .string ⟨#[]⟩, .bool false] 34)
 replace hB := below_alloc hB (.cells #[.string ⟨#[]⟩, .int .i64 0, .int .i64 0, .string ⟨#[]⟩, .bool false] 34)
 have hK := keep_alloc (KeepBut.refl w g none) (.cells #[.string ⟨#[]⟩, .int .i64 0, .int .i64 0, .string ⟨#[]⟩, .bool false] 34)
 have hO := blk_new w (.cells #[.string ⟨#[]⟩, .int .i64 0, .int .i64 0, .string ⟨#[]⟩, .bool false] 34)
 have hgb := hI.ne_blk hO (by decide)
 obtain ⟨b, hb_⟩ : ∃ b, b = w.heap.size := ⟨_, rfl⟩
 rw [← hb_] at hO hgb
 have hge : w.heap.size ≤ b := by omega
 have hge0 : w0.heap.size ≤ b := by rw [hb_]; exact hBs
 replace hb_ := Lib.hid hb_
 go_enter Tryz.func56, Tryz.ntmps56
 go_wp2_with fail
 rw [← hb_.out]
 revert hI; revert hB; revert hK; revert hO
 generalize w.alloc (.cells #[.string ⟨#[]⟩, .int .i64 0, .int .i64 0, .string ⟨#[]⟩, .bool false] 34) = v_
 intro hO hK hB hI
 refine (rtext p (a) (num x.f1 ++ (num x.f2 ++ (text x.f3 ++ (num (cB x.f4) ++ (q))))) x.f0 (by rw [hp]; simp only [workB, nodeB, ByteArray.append_assoc]) x0 hs hI hB).mono ?_
 rintro e' u0 ⟨rfl, hI2, hB2, hk⟩
 clear hI hB
 replace hO := hk.blk hO hgb.symm (by simp)
 replace hK := hK.trans hk (.inl rfl)
 have y := (blk_cell hO 0).trans rfl
 have z := blk_frozen hO 0
 have hO2 := blk_put hO 0 (.string x.f0) (cs' := #[.string x.f0, .int .i64 0, .int .i64 0, .string ⟨#[]⟩, .bool false]) rfl
 have hI := hI2.far (p := ⟨b, 0, none⟩) hgb (.string x.f0)
 have hB := hB2.setCell (p := ⟨b, 0, none⟩) hge0 (.string x.f0)
 replace hK := keep_far hK (p := ⟨b, 0, none⟩) hge (.string x.f0)
 clear hI2 hB2 hk hO
 go_wp2_with fail
 clear y z
 have hO := hO2
 clear hO2
 generalize u0.setCell ⟨b, 0, none⟩ (.string x.f0) = v0 at *
 refine (rnum p (a ++ text x.f0) (num x.f2 ++ (text x.f3 ++ (num (cB x.f4) ++ (q)))) x.f1 (by rw [hp]; simp only [workB, nodeB, ByteArray.append_assoc]) x1 hs hI hB).mono ?_
 rintro e' u1 ⟨rfl, hI2, hB2, hk⟩
 clear hI hB
 replace hO := hk.blk hO hgb.symm (by simp)
 replace hK := hK.trans hk (.inl rfl)
 have y := (blk_cell hO 1).trans rfl
 have z := blk_frozen hO 1
 have hO2 := blk_put hO 1 (.int .i64 x.f1) (cs' := #[.string x.f0, .int .i64 x.f1, .int .i64 0, .string ⟨#[]⟩, .bool false]) rfl
 have hI := hI2.far (p := ⟨b, 1, none⟩) hgb (.int .i64 x.f1)
 have hB := hB2.setCell (p := ⟨b, 1, none⟩) hge0 (.int .i64 x.f1)
 replace hK := keep_far hK (p := ⟨b, 1, none⟩) hge (.int .i64 x.f1)
 clear hI2 hB2 hk hO
 go_wp2_with fail
 clear y z
 have hO := hO2
 clear hO2
 generalize u1.setCell ⟨b, 1, none⟩ (.int .i64 x.f1) = v1 at *
 refine (rnum p (a ++ text x.f0 ++ num x.f1) (text x.f3 ++ (num (cB x.f4) ++ (q))) x.f2 (by rw [hp]; simp only [workB, nodeB, ByteArray.append_assoc]) x2 hs hI hB).mono ?_
 rintro e' u2 ⟨rfl, hI2, hB2, hk⟩
 clear hI hB
 replace hO := hk.blk hO hgb.symm (by simp)
 replace hK := hK.trans hk (.inl rfl)
 have y := (blk_cell hO 2).trans rfl
 have z := blk_frozen hO 2
 have hO2 := blk_put hO 2 (.int .i64 x.f2) (cs' := #[.string x.f0, .int .i64 x.f1, .int .i64 x.f2, .string ⟨#[]⟩, .bool false]) rfl
 have hI := hI2.far (p := ⟨b, 2, none⟩) hgb (.int .i64 x.f2)
 have hB := hB2.setCell (p := ⟨b, 2, none⟩) hge0 (.int .i64 x.f2)
 replace hK := keep_far hK (p := ⟨b, 2, none⟩) hge (.int .i64 x.f2)
 clear hI2 hB2 hk hO
 go_wp2_with fail
 clear y z
 have hO := hO2
 clear hO2
 generalize u2.setCell ⟨b, 2, none⟩ (.int .i64 x.f2) = v2 at *
 refine (rtext p (a ++ text x.f0 ++ num x.f1 ++ num x.f2) (num (cB x.f4) ++ (q)) x.f3 (by rw [hp]; simp only [workB, nodeB, ByteArray.append_assoc]) x3 hs hI hB).mono ?_
 rintro e' u3 ⟨rfl, hI2, hB2, hk⟩
 clear hI hB
 replace hO := hk.blk hO hgb.symm (by simp)
 replace hK := hK.trans hk (.inl rfl)
 have y := (blk_cell hO 3).trans rfl
 have z := blk_frozen hO 3
 have hO2 := blk_put hO 3 (.string x.f3) (cs' := #[.string x.f0, .int .i64 x.f1, .int .i64 x.f2, .string x.f3, .bool false]) rfl
 have hI := hI2.far (p := ⟨b, 3, none⟩) hgb (.string x.f3)
 have hB := hB2.setCell (p := ⟨b, 3, none⟩) hge0 (.string x.f3)
 replace hK := keep_far hK (p := ⟨b, 3, none⟩) hge (.string x.f3)
 clear hI2 hB2 hk hO
 go_wp2_with fail
 clear y z
 have hO := hO2
 clear hO2
 generalize u3.setCell ⟨b, 3, none⟩ (.string x.f3) = v3 at *
 refine (rnum p (a ++ text x.f0 ++ num x.f1 ++ num x.f2 ++ text x.f3) (q) (cB x.f4) (by rw [hp]; simp only [workB, nodeB, ByteArray.append_assoc]) (cB_in _) hs hI hB).mono ?_
 rintro e' u4 ⟨rfl, hI2, hB2, hk⟩
 clear hI hB
 replace hO := hk.blk hO hgb.symm (by simp)
 replace hK := hK.trans hk (.inl rfl)
 have hI := hI2
 have hB := hB2
 clear hI2 hB2 hk
 replace hI := (show Rd w0 u4 g p (a ++ nodeB x).size from by rw [show a ++ nodeB x = a ++ text x.f0 ++ num x.f1 ++ num x.f2 ++ text x.f3 ++ num (cB x.f4) from by simp only [nodeB, ByteArray.append_assoc]]; exact hI)
 rw [← hr.out] at hI
 clear hr hp
 cases hc : x.f4
 case false =>
  have y := (blk_cell hO 4).trans rfl
  have z := blk_frozen hO 4
  have hO2 := blk_put hO 4 (.bool false) (cs' := #[.string x.f0, .int .i64 x.f1, .int .i64 x.f2, .string x.f3, .bool false]) rfl
  have hI2 := hI.far (p := ⟨b, 4, none⟩) hgb (.bool false)
  have hB2 := hB.setCell (p := ⟨b, 4, none⟩) hge0 (.bool false)
  replace hK := keep_far hK (p := ⟨b, 4, none⟩) hge (.bool false)
  have s0 := (blk_cell hO2 0).trans rfl
  have t0 := blk_frozen hO2 0
  have s1 := (blk_cell hO2 1).trans rfl
  have t1 := blk_frozen hO2 1
  have s2 := (blk_cell hO2 2).trans rfl
  have t2 := blk_frozen hO2 2
  have s3 := (blk_cell hO2 3).trans rfl
  have t3 := blk_frozen hO2 3
  have s4 := (blk_cell hO2 4).trans rfl
  have t4 := blk_frozen hO2 4
  have k0 := blk_put hO2 0 (.string x.f0) (cs' := #[.string x.f0, .int .i64 x.f1, .int .i64 x.f2, .string x.f3, .bool false]) rfl
  have k1 := blk_put k0 1 (.int .i64 x.f1) (cs' := #[.string x.f0, .int .i64 x.f1, .int .i64 x.f2, .string x.f3, .bool false]) rfl
  have k2 := blk_put k1 2 (.int .i64 x.f2) (cs' := #[.string x.f0, .int .i64 x.f1, .int .i64 x.f2, .string x.f3, .bool false]) rfl
  have k3 := blk_put k2 3 (.string x.f3) (cs' := #[.string x.f0, .int .i64 x.f1, .int .i64 x.f2, .string x.f3, .bool false]) rfl
  have k4 := blk_put k3 4 (.bool false) (cs' := #[.string x.f0, .int .i64 x.f1, .int .i64 x.f2, .string x.f3, .bool false]) rfl
  replace hI2 := hI2.far (p := ⟨b, 0, none⟩) hgb (.string x.f0)
  replace hB2 := hB2.setCell (p := ⟨b, 0, none⟩) hge0 (.string x.f0)
  replace hK := keep_far hK (p := ⟨b, 0, none⟩) hge (.string x.f0)
  replace hI2 := hI2.far (p := ⟨b, 1, none⟩) hgb (.int .i64 x.f1)
  replace hB2 := hB2.setCell (p := ⟨b, 1, none⟩) hge0 (.int .i64 x.f1)
  replace hK := keep_far hK (p := ⟨b, 1, none⟩) hge (.int .i64 x.f1)
  replace hI2 := hI2.far (p := ⟨b, 2, none⟩) hgb (.int .i64 x.f2)
  replace hB2 := hB2.setCell (p := ⟨b, 2, none⟩) hge0 (.int .i64 x.f2)
  replace hK := keep_far hK (p := ⟨b, 2, none⟩) hge (.int .i64 x.f2)
  replace hI2 := hI2.far (p := ⟨b, 3, none⟩) hgb (.string x.f3)
  replace hB2 := hB2.setCell (p := ⟨b, 3, none⟩) hge0 (.string x.f3)
  replace hK := keep_far hK (p := ⟨b, 3, none⟩) hge (.string x.f3)
  replace hI2 := hI2.far (p := ⟨b, 4, none⟩) hgb (.bool false)
  replace hB2 := hB2.setCell (p := ⟨b, 4, none⟩) hge0 (.bool false)
  replace hK := keep_far hK (p := ⟨b, 4, none⟩) hge (.bool false)
  have hZ := Lib.hid k4
  clear k0 k1 k2 k3 k4
  rw [show cB false = 0 from rfl]
  replace hc := Lib.hid hc
  go_wp2_with fail
  refine bodyPost_ret (results_ct rfl _ _ b 34 _ (0, 0) _ rfl hZ.out Tryz.underlying34 rfl (by kernel_rfl)) rfl ?_
  exact ⟨by rw [hc.out]; rfl, hI2, hB2, hK⟩
 case true =>
  have y := (blk_cell hO 4).trans rfl
  have z := blk_frozen hO 4
  have hO2 := blk_put hO 4 (.bool true) (cs' := #[.string x.f0, .int .i64 x.f1, .int .i64 x.f2, .string x.f3, .bool true]) rfl
  have hI2 := hI.far (p := ⟨b, 4, none⟩) hgb (.bool true)
  have hB2 := hB.setCell (p := ⟨b, 4, none⟩) hge0 (.bool true)
  replace hK := keep_far hK (p := ⟨b, 4, none⟩) hge (.bool true)
  have s0 := (blk_cell hO2 0).trans rfl
  have t0 := blk_frozen hO2 0
  have s1 := (blk_cell hO2 1).trans rfl
  have t1 := blk_frozen hO2 1
  have s2 := (blk_cell hO2 2).trans rfl
  have t2 := blk_frozen hO2 2
  have s3 := (blk_cell hO2 3).trans rfl
  have t3 := blk_frozen hO2 3
  have s4 := (blk_cell hO2 4).trans rfl
  have t4 := blk_frozen hO2 4
  have k0 := blk_put hO2 0 (.string x.f0) (cs' := #[.string x.f0, .int .i64 x.f1, .int .i64 x.f2, .string x.f3, .bool true]) rfl
  have k1 := blk_put k0 1 (.int .i64 x.f1) (cs' := #[.string x.f0, .int .i64 x.f1, .int .i64 x.f2, .string x.f3, .bool true]) rfl
  have k2 := blk_put k1 2 (.int .i64 x.f2) (cs' := #[.string x.f0, .int .i64 x.f1, .int .i64 x.f2, .string x.f3, .bool true]) rfl
  have k3 := blk_put k2 3 (.string x.f3) (cs' := #[.string x.f0, .int .i64 x.f1, .int .i64 x.f2, .string x.f3, .bool true]) rfl
  have k4 := blk_put k3 4 (.bool true) (cs' := #[.string x.f0, .int .i64 x.f1, .int .i64 x.f2, .string x.f3, .bool true]) rfl
  replace hI2 := hI2.far (p := ⟨b, 0, none⟩) hgb (.string x.f0)
  replace hB2 := hB2.setCell (p := ⟨b, 0, none⟩) hge0 (.string x.f0)
  replace hK := keep_far hK (p := ⟨b, 0, none⟩) hge (.string x.f0)
  replace hI2 := hI2.far (p := ⟨b, 1, none⟩) hgb (.int .i64 x.f1)
  replace hB2 := hB2.setCell (p := ⟨b, 1, none⟩) hge0 (.int .i64 x.f1)
  replace hK := keep_far hK (p := ⟨b, 1, none⟩) hge (.int .i64 x.f1)
  replace hI2 := hI2.far (p := ⟨b, 2, none⟩) hgb (.int .i64 x.f2)
  replace hB2 := hB2.setCell (p := ⟨b, 2, none⟩) hge0 (.int .i64 x.f2)
  replace hK := keep_far hK (p := ⟨b, 2, none⟩) hge (.int .i64 x.f2)
  replace hI2 := hI2.far (p := ⟨b, 3, none⟩) hgb (.string x.f3)
  replace hB2 := hB2.setCell (p := ⟨b, 3, none⟩) hge0 (.string x.f3)
  replace hK := keep_far hK (p := ⟨b, 3, none⟩) hge (.string x.f3)
  replace hI2 := hI2.far (p := ⟨b, 4, none⟩) hgb (.bool true)
  replace hB2 := hB2.setCell (p := ⟨b, 4, none⟩) hge0 (.bool true)
  replace hK := keep_far hK (p := ⟨b, 4, none⟩) hge (.bool true)
  have hZ := Lib.hid k4
  clear k0 k1 k2 k3 k4
  rw [show cB true = 1 from rfl]
  replace hc := Lib.hid hc
  go_wp2_with fail
  refine bodyPost_ret (results_ct rfl _ _ b 34 _ (0, 0) _ rfl hZ.out Tryz.underlying34 rfl (by kernel_rfl)) rfl ?_
  exact ⟨by rw [hc.out]; rfl, hI2, hB2, hK⟩
end Go.Proofs.YtldlkbjbfgieeaaGreatDoor.Gw
