/- intent.putWork, putNode, PutOp: what they lay. -/
/- thin -/
import Derived.Test.YtldlkbjbfgieeaaGreatDoorPk
import Derived.Test.YtldlkbjbfgieeaaGreatDoorQx78
import Derived.Test.YtldlkbjbfgieeaaGreatDoorAp
import Derived.Test.YtldlkbjbfgieeaaGreatDoorMo
namespace Go.Proofs.YtldlkbjbfgieeaaGreatDoor.Pw
set_option linter.unusedVariables false
set_option linter.unusedSimpArgs false
open Go.RowKit Go.Proofs.YtldlkbjbfgieeaaGreatDoorW.PrintWords Go.Proofs.YtldlkbjbfgieeaaGreatDoorW.PrintLast Mo Q Go.Proofs.YtldlkbjbfgieeaaGreatDoor.Num Giv Ch Ap Pk
open Go.Proofs.YtldlkbjbfgieeaaGreatDoor.Ri (rightO rightW rightN)
theorem num_any (x : Int) (w : World) (h : In x) : Calls Tryz.prog 45 #[.int .i64 x] w fun e w' => e = .returned (.string (num x)) ∧ Below w.heap.size w w' := varint_Num.calls x _ _ (by unfold varint_Num.f; exact if_pos h)
theorem tsz (s : ByteArray) (h : s.size ≤ 200) : (text s).size ≤ 210 := by have := Vth.num_size_bd s.size; unfold text; rw [ByteArray.size_append]; omega
theorem nsz (x : Int) : (num x).size ≤ 10 := (Vth.num_size_bd x).2
theorem text_any (s : ByteArray) (w : World) (h : s.size ≤ 200) : Calls Tryz.prog 48 #[.string s] w fun e w' => e = .returned (.string (text s)) ∧ Below w.heap.size w w' := varint_Text.calls s _ _ (by
 unfold varint_Text.f
 have := Vth.num_size_bd s.size
 rw [show varint_Num.f (s.size : Int) = some (num s.size) from if_pos ⟨by omega, by omega⟩, Option.bind_some, if_pos (by omega)]; rfl)
set_option maxHeartbeats 4000000 in
set_option maxRecDepth 100000 in
theorem putWork_any (x : W) (w : World) (h : okW x) : Calls Tryz.prog 46 #[.agg #[.string x.f0, .int .i64 x.f1, .int .i64 x.f2, .int .i64 x.f3, .int .i64 x.f4, .string x.f5]] w fun e w' => e = .returned (.string (workB x)) ∧ Below w.heap.size w w' := by
 obtain ⟨h0, h1, h2, h3, h4, h5⟩ := h
 have u0 := tsz x.f0 h0
 have u1 := nsz x.f1
 have u2 := nsz x.f2
 have u3 := nsz x.f3
 have u4 := nsz x.f4
 have u5 := tsz x.f5 h5
 have za1 : (9223372036854775807 < (text x.f0).size + (num x.f1).size) = False := eq_false (by (try simp only [ByteArray.size_append]); omega)
 have za2 : (9223372036854775807 < (text x.f0 ++ num x.f1).size + (num x.f2).size) = False := eq_false (by (try simp only [ByteArray.size_append]); omega)
 have zb2 : (9223372036854775807 < (text x.f0).size + (num x.f1).size + (num x.f2).size) = False := eq_false (by omega)
 have za3 : (9223372036854775807 < (text x.f0 ++ num x.f1 ++ num x.f2).size + (num x.f3).size) = False := eq_false (by (try simp only [ByteArray.size_append]); omega)
 have zb3 : (9223372036854775807 < (text x.f0).size + (num x.f1).size + (num x.f2).size + (num x.f3).size) = False := eq_false (by omega)
 have za4 : (9223372036854775807 < (text x.f0 ++ num x.f1 ++ num x.f2 ++ num x.f3).size + (num x.f4).size) = False := eq_false (by (try simp only [ByteArray.size_append]); omega)
 have zb4 : (9223372036854775807 < (text x.f0).size + (num x.f1).size + (num x.f2).size + (num x.f3).size + (num x.f4).size) = False := eq_false (by omega)
 have za5 : (9223372036854775807 < (text x.f0 ++ num x.f1 ++ num x.f2 ++ num x.f3 ++ num x.f4).size + (text x.f5).size) = False := eq_false (by (try simp only [ByteArray.size_append]); omega)
 have zb5 : (9223372036854775807 < (text x.f0).size + (num x.f1).size + (num x.f2).size + (num x.f3).size + (num x.f4).size + (text x.f5).size) = False := eq_false (by omega)
 clear u0 u1 u2 u3 u4 u5
 have hB := below_alloc (Below.refl w.heap.size w) (.cells #[.string x.f0, .int .i64 x.f1, .int .i64 x.f2, .int .i64 x.f3, .int .i64 x.f4, .string x.f5] 32)
 have hO := blk_new w (.cells #[.string x.f0, .int .i64 x.f1, .int .i64 x.f2, .int .i64 x.f3, .int .i64 x.f4, .string x.f5] 32)
 obtain ⟨b, hb_⟩ : ∃ b, b = w.heap.size := ⟨_, rfl⟩
 rw [← hb_] at hO
 replace hb_ := Lib.hid hb_
 go_enter Tryz.func46, Tryz.ntmps46
 go_wp2_with fail
 rw [← hb_.out]
 revert hO; revert hB
 generalize w.alloc (.cells #[.string x.f0, .int .i64 x.f1, .int .i64 x.f2, .int .i64 x.f3, .int .i64 x.f4, .string x.f5] 32) = wa
 intro hB hO
 refine start_ (n := 24) (S := fun w' => w'.cell? ⟨b, 0, none⟩ = some (.string x.f0) ∧ w'.cell? ⟨b, 1, none⟩ = some (.int .i64 x.f1) ∧ w'.cell? ⟨b, 2, none⟩ = some (.int .i64 x.f2) ∧ w'.cell? ⟨b, 3, none⟩ = some (.int .i64 x.f3) ∧ w'.cell? ⟨b, 4, none⟩ = some (.int .i64 x.f4) ∧ w'.cell? ⟨b, 5, none⟩ = some (.string x.f5)) (ds := []) (bt 24 0) (by kernel_rfl) rfl (by kernel_rfl) (⟨(blk_cell hO 0).trans rfl, (blk_cell hO 1).trans rfl, (blk_cell hO 2).trans rfl, (blk_cell hO 3).trans rfl, (blk_cell hO 4).trans rfl, (blk_cell hO 5).trans rfl⟩) (fun hHeld => ?_)
 replace hO := blk_drew hO
 replace hB := below_then hB hB.size (below_drew (Below.refl _ _))
 generalize wa.drew = wd at *
 refine py 0 3 (bt 24 1) rfl rfl (h := ?_)
 refine ty 1 4 (bt 24 3) rfl rfl hHeld (h := ?_)
 refine py 3 6 (bt 24 11) rfl rfl (h := ?_)
 refine ty 4 7 (bt 24 27) rfl rfl hHeld (h := ?_)
 refine py 7 10 (bt 24 155) rfl rfl (h := ?_)
 refine ty 8 11 (bt 24 411) rfl rfl hHeld (h := ?_)
 refine py 11 14 (bt 24 2459) rfl rfl (h := ?_)
 refine ty 12 15 (bt 24 6555) rfl rfl hHeld (h := ?_)
 refine py 15 18 (bt 24 39323) rfl rfl (h := ?_)
 refine ty 16 19 (bt 24 104859) rfl rfl hHeld (h := ?_)
 refine py 19 22 (bt 24 629147) rfl rfl (h := ?_)
 refine ty 20 23 (bt 24 1677723) rfl rfl hHeld (h := ?_)
 refine oe 2 5 (bt 24 1677727) rfl rfl (fun K hK => ?_)
 refine goes_ Tryz.func48 (by kernel_rfl) rfl #[.string x.f0] (by rfl) rfl rfl (by (try simp only [List.map_toArray, List.map_cons, List.map_nil]); rfl) ?_
 refine (text_any _ _ h0).mono ?_
 rintro e v1 ⟨rfl, hb⟩
 replace hO := blk_below hO hb
 replace hB := below_then hB hB.size hb
 clear hb
 refine ⟨_, rfl, ?_⟩
 refine hK.out _ _ (⟨(blk_cell hO 0).trans rfl, (blk_cell hO 1).trans rfl, (blk_cell hO 2).trans rfl, (blk_cell hO 3).trans rfl, (blk_cell hO 4).trans rfl, (blk_cell hO 5).trans rfl⟩) (fun hHeld => ?_)
 clear hK K
 refine ny (h := ?_)
 refine oe 5 8 (bt 24 1677759) rfl rfl (fun K hK => ?_)
 refine goes_ Tryz.func45 (by kernel_rfl) rfl #[.int .i64 x.f1] (by rfl) rfl rfl (by (try simp only [List.map_toArray, List.map_cons, List.map_nil]); rfl) ?_
 refine (num_any _ _ h1).mono ?_
 rintro e v2 ⟨rfl, hb⟩
 replace hO := blk_below hO hb
 replace hB := below_then hB hB.size hb
 clear hb
 refine ⟨_, rfl, ?_⟩
 refine hK.out _ _ (⟨(blk_cell hO 0).trans rfl, (blk_cell hO 1).trans rfl, (blk_cell hO 2).trans rfl, (blk_cell hO 3).trans rfl, (blk_cell hO 4).trans rfl, (blk_cell hO 5).trans rfl⟩) (fun hHeld => ?_)
 clear hK K
 refine ny (h := ?_)
 refine py 6 9 (bt 24 1677823) rfl rfl (h := ?_)
 refine oe 9 12 (bt 24 1678335) rfl rfl (fun K hK => ?_)
 refine goes_ Tryz.func45 (by kernel_rfl) rfl #[.int .i64 x.f2] (by rfl) rfl rfl (by (try simp only [List.map_toArray, List.map_cons, List.map_nil]); rfl) ?_
 refine (num_any _ _ h2).mono ?_
 rintro e v3 ⟨rfl, hb⟩
 replace hO := blk_below hO hb
 replace hB := below_then hB hB.size hb
 clear hb
 refine ⟨_, rfl, ?_⟩
 refine hK.out _ _ (⟨(blk_cell hO 0).trans rfl, (blk_cell hO 1).trans rfl, (blk_cell hO 2).trans rfl, (blk_cell hO 3).trans rfl, (blk_cell hO 4).trans rfl, (blk_cell hO 5).trans rfl⟩) (fun hHeld => ?_)
 clear hK K
 refine ny (h := ?_)
 refine py 10 13 (bt 24 1679359) rfl rfl (h := ?_)
 refine oe 13 16 (bt 24 1687551) rfl rfl (fun K hK => ?_)
 refine goes_ Tryz.func45 (by kernel_rfl) rfl #[.int .i64 x.f3] (by rfl) rfl rfl (by (try simp only [List.map_toArray, List.map_cons, List.map_nil]); rfl) ?_
 refine (num_any _ _ h3).mono ?_
 rintro e v4 ⟨rfl, hb⟩
 replace hO := blk_below hO hb
 replace hB := below_then hB hB.size hb
 clear hb
 refine ⟨_, rfl, ?_⟩
 refine hK.out _ _ (⟨(blk_cell hO 0).trans rfl, (blk_cell hO 1).trans rfl, (blk_cell hO 2).trans rfl, (blk_cell hO 3).trans rfl, (blk_cell hO 4).trans rfl, (blk_cell hO 5).trans rfl⟩) (fun hHeld => ?_)
 clear hK K
 refine ny (h := ?_)
 refine py 14 17 (bt 24 1703935) rfl rfl (h := ?_)
 refine oe 17 20 (bt 24 1835007) rfl rfl (fun K hK => ?_)
 refine goes_ Tryz.func45 (by kernel_rfl) rfl #[.int .i64 x.f4] (by rfl) rfl rfl (by (try simp only [List.map_toArray, List.map_cons, List.map_nil]); rfl) ?_
 refine (num_any _ _ h4).mono ?_
 rintro e v5 ⟨rfl, hb⟩
 replace hO := blk_below hO hb
 replace hB := below_then hB hB.size hb
 clear hb
 refine ⟨_, rfl, ?_⟩
 refine hK.out _ _ (⟨(blk_cell hO 0).trans rfl, (blk_cell hO 1).trans rfl, (blk_cell hO 2).trans rfl, (blk_cell hO 3).trans rfl, (blk_cell hO 4).trans rfl, (blk_cell hO 5).trans rfl⟩) (fun hHeld => ?_)
 clear hK K
 refine ny (h := ?_)
 refine py 18 21 (bt 24 2097151) rfl rfl (h := ?_)
 refine oe 21 24 (bt 24 4194303) rfl rfl (fun K hK => ?_)
 refine goes_ Tryz.func48 (by kernel_rfl) rfl #[.string x.f5] (by rfl) rfl rfl (by (try simp only [List.map_toArray, List.map_cons, List.map_nil]); rfl) ?_
 refine (text_any _ _ h5).mono ?_
 rintro e v6 ⟨rfl, hb⟩
 replace hO := blk_below hO hb
 replace hB := below_then hB hB.size hb
 clear hb
 refine ⟨_, rfl, ?_⟩
 refine hK.out _ _ (⟨(blk_cell hO 0).trans rfl, (blk_cell hO 1).trans rfl, (blk_cell hO 2).trans rfl, (blk_cell hO 3).trans rfl, (blk_cell hO 4).trans rfl, (blk_cell hO 5).trans rfl⟩) (fun hHeld => ?_)
 clear hK K
 refine ny (h := ?_)
 refine py 22 25 (bt 24 8388607) rfl rfl (h := ?_)
 refine py 23 2 (bt 24 16777215) rfl rfl (h := ?_)
 refine done_ (by kernel_rfl) ?_
 go_wp2_with fail
 go_ret
 exact ⟨rfl, hB⟩
set_option maxHeartbeats 4000000 in
set_option maxRecDepth 100000 in
theorem putNode_true (x : N) (w : World) (h : okN x) : Calls Tryz.prog 47 #[.agg #[.string x.f0, .int .i64 x.f1, .int .i64 x.f2, .string x.f3, .bool true]] w fun e w' => e = .returned (.string (text x.f0 ++ num x.f1 ++ num x.f2 ++ text x.f3 ++ num 1)) ∧ Below w.heap.size w w' := by
 obtain ⟨h0, h1, h2, h3⟩ := h
 have u0 := tsz x.f0 h0
 have u1 := nsz x.f1
 have u2 := nsz x.f2
 have u3 := tsz x.f3 h3
 have u4 := nsz 1
 have za1 : (9223372036854775807 < (text x.f0).size + (num x.f1).size) = False := eq_false (by (try simp only [ByteArray.size_append]); omega)
 have za2 : (9223372036854775807 < (text x.f0 ++ num x.f1).size + (num x.f2).size) = False := eq_false (by (try simp only [ByteArray.size_append]); omega)
 have zb2 : (9223372036854775807 < (text x.f0).size + (num x.f1).size + (num x.f2).size) = False := eq_false (by omega)
 have za3 : (9223372036854775807 < (text x.f0 ++ num x.f1 ++ num x.f2).size + (text x.f3).size) = False := eq_false (by (try simp only [ByteArray.size_append]); omega)
 have zb3 : (9223372036854775807 < (text x.f0).size + (num x.f1).size + (num x.f2).size + (text x.f3).size) = False := eq_false (by omega)
 have za4 : (9223372036854775807 < (text x.f0 ++ num x.f1 ++ num x.f2 ++ text x.f3).size + (num 1).size) = False := eq_false (by (try simp only [ByteArray.size_append]); omega)
 have zb4 : (9223372036854775807 < (text x.f0).size + (num x.f1).size + (num x.f2).size + (text x.f3).size + (num 1).size) = False := eq_false (by omega)
 clear u0 u1 u2 u3 u4
 have hB := below_alloc (Below.refl w.heap.size w) (.cells #[.string x.f0, .int .i64 x.f1, .int .i64 x.f2, .string x.f3, .bool true] 34)
 have hO := blk_new w (.cells #[.string x.f0, .int .i64 x.f1, .int .i64 x.f2, .string x.f3, .bool true] 34)
 obtain ⟨b, hb_⟩ : ∃ b, b = w.heap.size := ⟨_, rfl⟩
 rw [← hb_] at hO
 replace hb_ := Lib.hid hb_
 go_enter Tryz.func47, Tryz.ntmps47
 go_wp2_with fail
 rw [← hb_.out]
 revert hO; revert hB
 generalize w.alloc (.cells #[.string x.f0, .int .i64 x.f1, .int .i64 x.f2, .string x.f3, .bool true] 34) = wa
 intro hB hO
 refine start_ (n := 19) (S := fun w' => w'.cell? ⟨b, 0, none⟩ = some (.string x.f0) ∧ w'.cell? ⟨b, 1, none⟩ = some (.int .i64 x.f1) ∧ w'.cell? ⟨b, 2, none⟩ = some (.int .i64 x.f2) ∧ w'.cell? ⟨b, 3, none⟩ = some (.string x.f3)) (ds := []) (bt 19 0) (by kernel_rfl) rfl (by kernel_rfl) (⟨(blk_cell hO 0).trans rfl, (blk_cell hO 1).trans rfl, (blk_cell hO 2).trans rfl, (blk_cell hO 3).trans rfl⟩) (fun hHeld => ?_)
 replace hO := blk_drew hO
 replace hB := below_then hB hB.size (below_drew (Below.refl _ _))
 generalize wa.drew = wd at *
 refine py 0 6 (bt 19 1) rfl rfl (h := ?_)
 refine ty 1 7 (bt 19 3) rfl rfl hHeld (h := ?_)
 refine py 3 9 (bt 19 11) rfl rfl (h := ?_)
 refine ty 4 10 (bt 19 27) rfl rfl hHeld (h := ?_)
 refine py 7 13 (bt 19 155) rfl rfl (h := ?_)
 refine ty 8 14 (bt 19 411) rfl rfl hHeld (h := ?_)
 refine py 11 17 (bt 19 2459) rfl rfl (h := ?_)
 refine ty 12 18 (bt 19 6555) rfl rfl hHeld (h := ?_)
 refine py 15 21 (bt 19 39323) rfl rfl (h := ?_)
 refine oe 2 8 (bt 19 39327) rfl rfl (fun K hK => ?_)
 refine goes_ Tryz.func48 (by kernel_rfl) rfl #[.string x.f0] (by rfl) rfl rfl (by (try simp only [List.map_toArray, List.map_cons, List.map_nil]); rfl) ?_
 refine (text_any _ _ h0).mono ?_
 rintro e v1 ⟨rfl, hb⟩
 replace hO := blk_below hO hb
 replace hB := below_then hB hB.size hb
 clear hb
 refine ⟨_, rfl, ?_⟩
 refine hK.out _ _ (⟨(blk_cell hO 0).trans rfl, (blk_cell hO 1).trans rfl, (blk_cell hO 2).trans rfl, (blk_cell hO 3).trans rfl⟩) (fun hHeld => ?_)
 clear hK K
 refine ny (h := ?_)
 refine oe 5 11 (bt 19 39359) rfl rfl (fun K hK => ?_)
 refine goes_ Tryz.func45 (by kernel_rfl) rfl #[.int .i64 x.f1] (by rfl) rfl rfl (by (try simp only [List.map_toArray, List.map_cons, List.map_nil]); rfl) ?_
 refine (num_any _ _ h1).mono ?_
 rintro e v2 ⟨rfl, hb⟩
 replace hO := blk_below hO hb
 replace hB := below_then hB hB.size hb
 clear hb
 refine ⟨_, rfl, ?_⟩
 refine hK.out _ _ (⟨(blk_cell hO 0).trans rfl, (blk_cell hO 1).trans rfl, (blk_cell hO 2).trans rfl, (blk_cell hO 3).trans rfl⟩) (fun hHeld => ?_)
 clear hK K
 refine ny (h := ?_)
 refine py 6 12 (bt 19 39423) rfl rfl (h := ?_)
 refine oe 9 15 (bt 19 39935) rfl rfl (fun K hK => ?_)
 refine goes_ Tryz.func45 (by kernel_rfl) rfl #[.int .i64 x.f2] (by rfl) rfl rfl (by (try simp only [List.map_toArray, List.map_cons, List.map_nil]); rfl) ?_
 refine (num_any _ _ h2).mono ?_
 rintro e v3 ⟨rfl, hb⟩
 replace hO := blk_below hO hb
 replace hB := below_then hB hB.size hb
 clear hb
 refine ⟨_, rfl, ?_⟩
 refine hK.out _ _ (⟨(blk_cell hO 0).trans rfl, (blk_cell hO 1).trans rfl, (blk_cell hO 2).trans rfl, (blk_cell hO 3).trans rfl⟩) (fun hHeld => ?_)
 clear hK K
 refine ny (h := ?_)
 refine py 10 16 (bt 19 40959) rfl rfl (h := ?_)
 refine oe 13 19 (bt 19 49151) rfl rfl (fun K hK => ?_)
 refine goes_ Tryz.func48 (by kernel_rfl) rfl #[.string x.f3] (by rfl) rfl rfl (by (try simp only [List.map_toArray, List.map_cons, List.map_nil]); rfl) ?_
 refine (text_any _ _ h3).mono ?_
 rintro e v4 ⟨rfl, hb⟩
 replace hO := blk_below hO hb
 replace hB := below_then hB hB.size hb
 clear hb
 refine ⟨_, rfl, ?_⟩
 refine hK.out _ _ (⟨(blk_cell hO 0).trans rfl, (blk_cell hO 1).trans rfl, (blk_cell hO 2).trans rfl, (blk_cell hO 3).trans rfl⟩) (fun hHeld => ?_)
 clear hK K
 refine ny (h := ?_)
 refine py 14 20 (bt 19 65535) rfl rfl (h := ?_)
 refine oe 16 22 (bt 19 131071) rfl rfl (fun K hK => ?_)
 refine goes_ Tryz.func45 (by kernel_rfl) rfl #[.int .i64 1] (by rfl) rfl rfl (by (try simp only [List.map_toArray, List.map_cons, List.map_nil]); rfl) ?_
 refine (num_any 1 _ ⟨by decide, by decide⟩).mono ?_
 rintro e v5 ⟨rfl, hb⟩
 replace hO := blk_below hO hb
 replace hB := below_then hB hB.size hb
 clear hb
 refine ⟨_, rfl, ?_⟩
 refine hK.out _ _ (⟨(blk_cell hO 0).trans rfl, (blk_cell hO 1).trans rfl, (blk_cell hO 2).trans rfl, (blk_cell hO 3).trans rfl⟩) (fun hHeld => ?_)
 clear hK K
 refine ny (h := ?_)
 refine py 17 23 (bt 19 262143) rfl rfl (h := ?_)
 refine py 18 2 (bt 19 524287) rfl rfl (h := ?_)
 refine done_ (by kernel_rfl) ?_
 go_wp2_with fail
 go_ret
 exact ⟨rfl, hB⟩
set_option maxHeartbeats 4000000 in
set_option maxRecDepth 100000 in
theorem putNode_false (x : N) (w : World) (h : okN x) : Calls Tryz.prog 47 #[.agg #[.string x.f0, .int .i64 x.f1, .int .i64 x.f2, .string x.f3, .bool false]] w fun e w' => e = .returned (.string (text x.f0 ++ num x.f1 ++ num x.f2 ++ text x.f3 ++ num 0)) ∧ Below w.heap.size w w' := by
 obtain ⟨h0, h1, h2, h3⟩ := h
 have u0 := tsz x.f0 h0
 have u1 := nsz x.f1
 have u2 := nsz x.f2
 have u3 := tsz x.f3 h3
 have u4 := nsz 0
 have za1 : (9223372036854775807 < (text x.f0).size + (num x.f1).size) = False := eq_false (by (try simp only [ByteArray.size_append]); omega)
 have za2 : (9223372036854775807 < (text x.f0 ++ num x.f1).size + (num x.f2).size) = False := eq_false (by (try simp only [ByteArray.size_append]); omega)
 have zb2 : (9223372036854775807 < (text x.f0).size + (num x.f1).size + (num x.f2).size) = False := eq_false (by omega)
 have za3 : (9223372036854775807 < (text x.f0 ++ num x.f1 ++ num x.f2).size + (text x.f3).size) = False := eq_false (by (try simp only [ByteArray.size_append]); omega)
 have zb3 : (9223372036854775807 < (text x.f0).size + (num x.f1).size + (num x.f2).size + (text x.f3).size) = False := eq_false (by omega)
 have za4 : (9223372036854775807 < (text x.f0 ++ num x.f1 ++ num x.f2 ++ text x.f3).size + (num 0).size) = False := eq_false (by (try simp only [ByteArray.size_append]); omega)
 have zb4 : (9223372036854775807 < (text x.f0).size + (num x.f1).size + (num x.f2).size + (text x.f3).size + (num 0).size) = False := eq_false (by omega)
 clear u0 u1 u2 u3 u4
 have hB := below_alloc (Below.refl w.heap.size w) (.cells #[.string x.f0, .int .i64 x.f1, .int .i64 x.f2, .string x.f3, .bool false] 34)
 have hO := blk_new w (.cells #[.string x.f0, .int .i64 x.f1, .int .i64 x.f2, .string x.f3, .bool false] 34)
 obtain ⟨b, hb_⟩ : ∃ b, b = w.heap.size := ⟨_, rfl⟩
 rw [← hb_] at hO
 replace hb_ := Lib.hid hb_
 go_enter Tryz.func47, Tryz.ntmps47
 go_wp2_with fail
 rw [← hb_.out]
 revert hO; revert hB
 generalize w.alloc (.cells #[.string x.f0, .int .i64 x.f1, .int .i64 x.f2, .string x.f3, .bool false] 34) = wa
 intro hB hO
 refine start_ (n := 19) (S := fun w' => w'.cell? ⟨b, 0, none⟩ = some (.string x.f0) ∧ w'.cell? ⟨b, 1, none⟩ = some (.int .i64 x.f1) ∧ w'.cell? ⟨b, 2, none⟩ = some (.int .i64 x.f2) ∧ w'.cell? ⟨b, 3, none⟩ = some (.string x.f3)) (ds := []) (bt 19 0) (by kernel_rfl) rfl (by kernel_rfl) (⟨(blk_cell hO 0).trans rfl, (blk_cell hO 1).trans rfl, (blk_cell hO 2).trans rfl, (blk_cell hO 3).trans rfl⟩) (fun hHeld => ?_)
 replace hO := blk_drew hO
 replace hB := below_then hB hB.size (below_drew (Below.refl _ _))
 generalize wa.drew = wd at *
 refine py 0 6 (bt 19 1) rfl rfl (h := ?_)
 refine ty 1 7 (bt 19 3) rfl rfl hHeld (h := ?_)
 refine py 3 9 (bt 19 11) rfl rfl (h := ?_)
 refine ty 4 10 (bt 19 27) rfl rfl hHeld (h := ?_)
 refine py 7 13 (bt 19 155) rfl rfl (h := ?_)
 refine ty 8 14 (bt 19 411) rfl rfl hHeld (h := ?_)
 refine py 11 17 (bt 19 2459) rfl rfl (h := ?_)
 refine ty 12 18 (bt 19 6555) rfl rfl hHeld (h := ?_)
 refine py 15 21 (bt 19 39323) rfl rfl (h := ?_)
 refine oe 2 8 (bt 19 39327) rfl rfl (fun K hK => ?_)
 refine goes_ Tryz.func48 (by kernel_rfl) rfl #[.string x.f0] (by rfl) rfl rfl (by (try simp only [List.map_toArray, List.map_cons, List.map_nil]); rfl) ?_
 refine (text_any _ _ h0).mono ?_
 rintro e v1 ⟨rfl, hb⟩
 replace hO := blk_below hO hb
 replace hB := below_then hB hB.size hb
 clear hb
 refine ⟨_, rfl, ?_⟩
 refine hK.out _ _ (⟨(blk_cell hO 0).trans rfl, (blk_cell hO 1).trans rfl, (blk_cell hO 2).trans rfl, (blk_cell hO 3).trans rfl⟩) (fun hHeld => ?_)
 clear hK K
 refine ny (h := ?_)
 refine oe 5 11 (bt 19 39359) rfl rfl (fun K hK => ?_)
 refine goes_ Tryz.func45 (by kernel_rfl) rfl #[.int .i64 x.f1] (by rfl) rfl rfl (by (try simp only [List.map_toArray, List.map_cons, List.map_nil]); rfl) ?_
 refine (num_any _ _ h1).mono ?_
 rintro e v2 ⟨rfl, hb⟩
 replace hO := blk_below hO hb
 replace hB := below_then hB hB.size hb
 clear hb
 refine ⟨_, rfl, ?_⟩
 refine hK.out _ _ (⟨(blk_cell hO 0).trans rfl, (blk_cell hO 1).trans rfl, (blk_cell hO 2).trans rfl, (blk_cell hO 3).trans rfl⟩) (fun hHeld => ?_)
 clear hK K
 refine ny (h := ?_)
 refine py 6 12 (bt 19 39423) rfl rfl (h := ?_)
 refine oe 9 15 (bt 19 39935) rfl rfl (fun K hK => ?_)
 refine goes_ Tryz.func45 (by kernel_rfl) rfl #[.int .i64 x.f2] (by rfl) rfl rfl (by (try simp only [List.map_toArray, List.map_cons, List.map_nil]); rfl) ?_
 refine (num_any _ _ h2).mono ?_
 rintro e v3 ⟨rfl, hb⟩
 replace hO := blk_below hO hb
 replace hB := below_then hB hB.size hb
 clear hb
 refine ⟨_, rfl, ?_⟩
 refine hK.out _ _ (⟨(blk_cell hO 0).trans rfl, (blk_cell hO 1).trans rfl, (blk_cell hO 2).trans rfl, (blk_cell hO 3).trans rfl⟩) (fun hHeld => ?_)
 clear hK K
 refine ny (h := ?_)
 refine py 10 16 (bt 19 40959) rfl rfl (h := ?_)
 refine oe 13 19 (bt 19 49151) rfl rfl (fun K hK => ?_)
 refine goes_ Tryz.func48 (by kernel_rfl) rfl #[.string x.f3] (by rfl) rfl rfl (by (try simp only [List.map_toArray, List.map_cons, List.map_nil]); rfl) ?_
 refine (text_any _ _ h3).mono ?_
 rintro e v4 ⟨rfl, hb⟩
 replace hO := blk_below hO hb
 replace hB := below_then hB hB.size hb
 clear hb
 refine ⟨_, rfl, ?_⟩
 refine hK.out _ _ (⟨(blk_cell hO 0).trans rfl, (blk_cell hO 1).trans rfl, (blk_cell hO 2).trans rfl, (blk_cell hO 3).trans rfl⟩) (fun hHeld => ?_)
 clear hK K
 refine ny (h := ?_)
 refine py 14 20 (bt 19 65535) rfl rfl (h := ?_)
 refine oe 16 22 (bt 19 131071) rfl rfl (fun K hK => ?_)
 refine goes_ Tryz.func45 (by kernel_rfl) rfl #[.int .i64 0] (by rfl) rfl rfl (by (try simp only [List.map_toArray, List.map_cons, List.map_nil]); rfl) ?_
 refine (num_any 0 _ ⟨by decide, by decide⟩).mono ?_
 rintro e v5 ⟨rfl, hb⟩
 replace hO := blk_below hO hb
 replace hB := below_then hB hB.size hb
 clear hb
 refine ⟨_, rfl, ?_⟩
 refine hK.out _ _ (⟨(blk_cell hO 0).trans rfl, (blk_cell hO 1).trans rfl, (blk_cell hO 2).trans rfl, (blk_cell hO 3).trans rfl⟩) (fun hHeld => ?_)
 clear hK K
 refine ny (h := ?_)
 refine py 17 23 (bt 19 262143) rfl rfl (h := ?_)
 refine py 18 2 (bt 19 524287) rfl rfl (h := ?_)
 refine done_ (by kernel_rfl) ?_
 go_wp2_with fail
 go_ret
 exact ⟨rfl, hB⟩
theorem putNode_any (x : N) (w : World) (h : okN x) : Calls Tryz.prog 47 #[.agg #[.string x.f0, .int .i64 x.f1, .int .i64 x.f2, .string x.f3, .bool x.f4]] w fun e w' => e = .returned (.string (nodeB x)) ∧ Below w.heap.size w w' := by
 unfold nodeB cB
 cases hx : x.f4 with
 | true => exact putNode_true x w h
 | false => exact putNode_false x w h
theorem wsz (x : W) (h : okW x) : (workB x).size ≤ 500 := by
 have u0 := tsz x.f0 h.1
 have u1 := nsz x.f1
 have u2 := nsz x.f2
 have u3 := nsz x.f3
 have u4 := nsz x.f4
 have u5 := tsz x.f5 h.2.2.2.2.2
 unfold workB
 simp only [ByteArray.size_append]
 omega
theorem nosz (x : N) (h : okN x) : (nodeB x).size ≤ 500 := by
 have u0 := tsz x.f0 h.1
 have u1 := nsz x.f1
 have u2 := nsz x.f2
 have u3 := tsz x.f3 h.2.2.2
 have u4 := nsz (cB x.f4)
 unfold nodeB
 simp only [ByteArray.size_append]
 omega
set_option maxHeartbeats 8000000 in
set_option maxRecDepth 100000 in
theorem putOp_any (k : Int) (x : W) (y : N) (id : ByteArray) (want : Int) (w : World) (hr : rightO k x y id want = true) (hx : okW x) (hy : okN y) (hi : id.size ≤ 200) (hv : In want) (hx5 : x.f5.size < 4294967281) (hy3 : y.f3.size < 4294967281) :
 Calls Tryz.prog 19 #[opV k x y id want] w fun e w' => e = .returned (.tuple #[.string (opB k x y id want), .int .i64 0]) ∧ Below w.heap.size w w' := by
 have hB := below_alloc (Below.refl w.heap.size w) (opC k x y id want)
 have hO := blk_new w (opC k x y id want)
 obtain ⟨b, hb_⟩ : ∃ b, b = w.heap.size := ⟨_, rfl⟩
 rw [← hb_] at hO
 replace hb_ := Lib.hid hb_
 have hk := op_range hr
 have hop := fun W => Ri.iop_any k x y id want W hx5 hy3
 rw [hr] at hop
 have hop := Aside0.mk hop
 go_enter Tryz.func19, Tryz.ntmps19
 go_wp2_with fail
 rw [← hb_.out]
 revert hO; revert hB
 generalize w.alloc (opC k x y id want) = wa
 intro hB hO
 refine (hop.out _).mono ?_
 rintro e' w1 ⟨rfl, hb⟩
 replace hO := blk_below hO hb
 replace hB := below_then hB hB.size hb
 clear hb
 have o0 := (blk_cell hO 0).trans rfl
 have o1 := (blk_cell hO 1).trans rfl
 have o2 := (blk_cell hO 2).trans rfl
 have o3 := (blk_cell hO 3).trans rfl
 have o4 := (blk_cell hO 4).trans rfl
 have o5 := (blk_cell hO 5).trans rfl
 have o6 := (blk_cell hO 6).trans rfl
 have o7 := (blk_cell hO 7).trans rfl
 have o8 := (blk_cell hO 8).trans rfl
 have o9 := (blk_cell hO 9).trans rfl
 have o10 := (blk_cell hO 10).trans rfl
 have o11 := (blk_cell hO 11).trans rfl
 have o12 := (blk_cell hO 12).trans rfl
 have o13 := (blk_cell hO 13).trans rfl
 go_wp2_with fail
 refine (num_any k _ ⟨by omega, by omega⟩).mono ?_
 rintro e' w2 ⟨rfl, hb⟩
 clear o0 o1 o2 o3 o4 o5 o6 o7 o8 o9 o10 o11 o12 o13
 replace hO := blk_below hO hb
 replace hB := below_then hB hB.size hb
 clear hb
 rcases (show k = 1 ∨ k = 2 ∨ k = 3 ∨ k = 4 ∨ k = 5 ∨ k = 6 ∨ k = 7 ∨ k = 8 from by omega) with rfl | rfl | rfl | rfl | rfl | rfl | rfl | rfl
 ·have u1 := wsz x hx
  have u0 := nsz 1
  have za1 : (9223372036854775807 < (num 1).size + (workB x).size) = False := eq_false (by (try simp only [ByteArray.size_append]); omega)
  clear u0 u1
  have o0 := (blk_cell hO 0).trans rfl
  have o1 := (blk_cell hO 1).trans rfl
  have o2 := (blk_cell hO 2).trans rfl
  have o3 := (blk_cell hO 3).trans rfl
  have o4 := (blk_cell hO 4).trans rfl
  have o5 := (blk_cell hO 5).trans rfl
  have o6 := (blk_cell hO 6).trans rfl
  have o7 := (blk_cell hO 7).trans rfl
  have o8 := (blk_cell hO 8).trans rfl
  have o9 := (blk_cell hO 9).trans rfl
  have o10 := (blk_cell hO 10).trans rfl
  have o11 := (blk_cell hO 11).trans rfl
  have o12 := (blk_cell hO 12).trans rfl
  have o13 := (blk_cell hO 13).trans rfl
  go_wp2_with fail
  refine (putWork_any x _ hx).mono ?_
  rintro e' w3 ⟨rfl, hb⟩
  clear o0 o1 o2 o3 o4 o5 o6 o7 o8 o9 o10 o11 o12 o13
  replace hO := blk_below hO hb
  replace hB := below_then hB hB.size hb
  clear hb
  go_wp2_with fail
  go_ret2
  exact ⟨rfl, hB⟩
 ·have u1 := tsz id hi
  have u0 := nsz 2
  have u2 := nsz want
  have za1 : (9223372036854775807 < (text id).size + (num want).size) = False := eq_false (by omega)
  have za2 : (9223372036854775807 < (num 2).size + (text id ++ num want).size) = False := eq_false (by rw [ByteArray.size_append]; omega)
  have zb2 : (9223372036854775807 < (num 2).size + ((text id).size + (num want).size)) = False := eq_false (by omega)
  clear u2
  clear u0 u1
  have o0 := (blk_cell hO 0).trans rfl
  have o1 := (blk_cell hO 1).trans rfl
  have o2 := (blk_cell hO 2).trans rfl
  have o3 := (blk_cell hO 3).trans rfl
  have o4 := (blk_cell hO 4).trans rfl
  have o5 := (blk_cell hO 5).trans rfl
  have o6 := (blk_cell hO 6).trans rfl
  have o7 := (blk_cell hO 7).trans rfl
  have o8 := (blk_cell hO 8).trans rfl
  have o9 := (blk_cell hO 9).trans rfl
  have o10 := (blk_cell hO 10).trans rfl
  have o11 := (blk_cell hO 11).trans rfl
  have o12 := (blk_cell hO 12).trans rfl
  have o13 := (blk_cell hO 13).trans rfl
  go_wp2_with fail
  clear o0 o1 o2 o3 o4 o5 o6 o7 o8 o9 o10 o11 o12 o13
  refine start_ (n := 10) (S := fun w' => w'.cell? ⟨b, 12, none⟩ = some (.string id) ∧ w'.cell? ⟨b, 13, none⟩ = some (.int .i64 want)) (ds := []) (bt 10 0) (by kernel_rfl) rfl (by kernel_rfl) (⟨(blk_cell hO 12).trans rfl, (blk_cell hO 13).trans rfl⟩) (fun hHeld => ?_)
  replace hO := blk_drew hO
  replace hB := below_then hB hB.size (below_drew (Below.refl _ _))
  generalize w2.drew = wd at *
  refine py 0 34 (bt 10 1) rfl rfl (h := ?_)
  refine py 1 35 (bt 10 3) rfl rfl (h := ?_)
  refine ty 2 36 (bt 10 7) rfl rfl hHeld (h := ?_)
  refine py 4 38 (bt 10 23) rfl rfl (h := ?_)
  refine ty 5 39 (bt 10 55) rfl rfl hHeld (h := ?_)
  refine oe 3 37 (bt 10 63) rfl rfl (fun K hK => ?_)
  refine goes_ Tryz.func48 (by kernel_rfl) rfl #[.string id] (by rfl) rfl rfl (by (try simp only [List.map_toArray, List.map_cons, List.map_nil]); rfl) ?_
  refine (text_any _ _ hi).mono ?_
  rintro e v1 ⟨rfl, hb⟩
  replace hO := blk_below hO hb
  replace hB := below_then hB hB.size hb
  clear hb
  refine ⟨_, rfl, ?_⟩
  refine hK.out _ _ (⟨(blk_cell hO 12).trans rfl, (blk_cell hO 13).trans rfl⟩) (fun hHeld => ?_)
  clear hK K
  refine ny (h := ?_)
  refine oe 6 40 (bt 10 127) rfl rfl (fun K hK => ?_)
  refine goes_ Tryz.func45 (by kernel_rfl) rfl #[.int .i64 want] (by rfl) rfl rfl (by (try simp only [List.map_toArray, List.map_cons, List.map_nil]); rfl) ?_
  refine (num_any _ _ hv).mono ?_
  rintro e v2 ⟨rfl, hb⟩
  replace hO := blk_below hO hb
  replace hB := below_then hB hB.size hb
  clear hb
  refine ⟨_, rfl, ?_⟩
  refine hK.out _ _ (⟨(blk_cell hO 12).trans rfl, (blk_cell hO 13).trans rfl⟩) (fun hHeld => ?_)
  clear hK K
  refine ny (h := ?_)
  refine py 7 41 (bt 10 255) rfl rfl (h := ?_)
  refine py 8 42 (bt 10 511) rfl rfl (h := ?_)
  refine py 9 4 (bt 10 1023) rfl rfl (h := ?_)
  refine done_ (by kernel_rfl) ?_
  go_wp2_with fail
  go_ret2
  exact ⟨rfl, hB⟩
 ·have u1 := tsz id hi
  have u0 := nsz 3
  have za1 : (9223372036854775807 < (num 3).size + (text id).size) = False := eq_false (by (try simp only [ByteArray.size_append]); omega)
  clear u0 u1
  have o0 := (blk_cell hO 0).trans rfl
  have o1 := (blk_cell hO 1).trans rfl
  have o2 := (blk_cell hO 2).trans rfl
  have o3 := (blk_cell hO 3).trans rfl
  have o4 := (blk_cell hO 4).trans rfl
  have o5 := (blk_cell hO 5).trans rfl
  have o6 := (blk_cell hO 6).trans rfl
  have o7 := (blk_cell hO 7).trans rfl
  have o8 := (blk_cell hO 8).trans rfl
  have o9 := (blk_cell hO 9).trans rfl
  have o10 := (blk_cell hO 10).trans rfl
  have o11 := (blk_cell hO 11).trans rfl
  have o12 := (blk_cell hO 12).trans rfl
  have o13 := (blk_cell hO 13).trans rfl
  go_wp2_with fail
  refine (text_any id _ hi).mono ?_
  rintro e' w3 ⟨rfl, hb⟩
  clear o0 o1 o2 o3 o4 o5 o6 o7 o8 o9 o10 o11 o12 o13
  replace hO := blk_below hO hb
  replace hB := below_then hB hB.size hb
  clear hb
  go_wp2_with fail
  go_ret2
  exact ⟨rfl, hB⟩
 ·have u1 := nosz y hy
  have u0 := nsz 4
  have za1 : (9223372036854775807 < (num 4).size + (nodeB y).size) = False := eq_false (by (try simp only [ByteArray.size_append]); omega)
  clear u0 u1
  have o0 := (blk_cell hO 0).trans rfl
  have o1 := (blk_cell hO 1).trans rfl
  have o2 := (blk_cell hO 2).trans rfl
  have o3 := (blk_cell hO 3).trans rfl
  have o4 := (blk_cell hO 4).trans rfl
  have o5 := (blk_cell hO 5).trans rfl
  have o6 := (blk_cell hO 6).trans rfl
  have o7 := (blk_cell hO 7).trans rfl
  have o8 := (blk_cell hO 8).trans rfl
  have o9 := (blk_cell hO 9).trans rfl
  have o10 := (blk_cell hO 10).trans rfl
  have o11 := (blk_cell hO 11).trans rfl
  have o12 := (blk_cell hO 12).trans rfl
  have o13 := (blk_cell hO 13).trans rfl
  go_wp2_with fail
  refine (putNode_any y _ hy).mono ?_
  rintro e' w3 ⟨rfl, hb⟩
  clear o0 o1 o2 o3 o4 o5 o6 o7 o8 o9 o10 o11 o12 o13
  replace hO := blk_below hO hb
  replace hB := below_then hB hB.size hb
  clear hb
  go_wp2_with fail
  go_ret2
  exact ⟨rfl, hB⟩
 ·have u1 := tsz id hi
  have u0 := nsz 5
  have za1 : (9223372036854775807 < (num 5).size + (text id).size) = False := eq_false (by (try simp only [ByteArray.size_append]); omega)
  clear u0 u1
  have o0 := (blk_cell hO 0).trans rfl
  have o1 := (blk_cell hO 1).trans rfl
  have o2 := (blk_cell hO 2).trans rfl
  have o3 := (blk_cell hO 3).trans rfl
  have o4 := (blk_cell hO 4).trans rfl
  have o5 := (blk_cell hO 5).trans rfl
  have o6 := (blk_cell hO 6).trans rfl
  have o7 := (blk_cell hO 7).trans rfl
  have o8 := (blk_cell hO 8).trans rfl
  have o9 := (blk_cell hO 9).trans rfl
  have o10 := (blk_cell hO 10).trans rfl
  have o11 := (blk_cell hO 11).trans rfl
  have o12 := (blk_cell hO 12).trans rfl
  have o13 := (blk_cell hO 13).trans rfl
  go_wp2_with fail
  refine (text_any id _ hi).mono ?_
  rintro e' w3 ⟨rfl, hb⟩
  clear o0 o1 o2 o3 o4 o5 o6 o7 o8 o9 o10 o11 o12 o13
  replace hO := blk_below hO hb
  replace hB := below_then hB hB.size hb
  clear hb
  go_wp2_with fail
  go_ret2
  exact ⟨rfl, hB⟩
 ·have u1 := tsz id hi
  have u0 := nsz 6
  have za1 : (9223372036854775807 < (num 6).size + (text id).size) = False := eq_false (by (try simp only [ByteArray.size_append]); omega)
  clear u0 u1
  have o0 := (blk_cell hO 0).trans rfl
  have o1 := (blk_cell hO 1).trans rfl
  have o2 := (blk_cell hO 2).trans rfl
  have o3 := (blk_cell hO 3).trans rfl
  have o4 := (blk_cell hO 4).trans rfl
  have o5 := (blk_cell hO 5).trans rfl
  have o6 := (blk_cell hO 6).trans rfl
  have o7 := (blk_cell hO 7).trans rfl
  have o8 := (blk_cell hO 8).trans rfl
  have o9 := (blk_cell hO 9).trans rfl
  have o10 := (blk_cell hO 10).trans rfl
  have o11 := (blk_cell hO 11).trans rfl
  have o12 := (blk_cell hO 12).trans rfl
  have o13 := (blk_cell hO 13).trans rfl
  go_wp2_with fail
  refine (text_any id _ hi).mono ?_
  rintro e' w3 ⟨rfl, hb⟩
  clear o0 o1 o2 o3 o4 o5 o6 o7 o8 o9 o10 o11 o12 o13
  replace hO := blk_below hO hb
  replace hB := below_then hB hB.size hb
  clear hb
  go_wp2_with fail
  go_ret2
  exact ⟨rfl, hB⟩
 ·have u1 := tsz id hi
  have u0 := nsz 7
  have za1 : (9223372036854775807 < (num 7).size + (text id).size) = False := eq_false (by (try simp only [ByteArray.size_append]); omega)
  clear u0 u1
  have o0 := (blk_cell hO 0).trans rfl
  have o1 := (blk_cell hO 1).trans rfl
  have o2 := (blk_cell hO 2).trans rfl
  have o3 := (blk_cell hO 3).trans rfl
  have o4 := (blk_cell hO 4).trans rfl
  have o5 := (blk_cell hO 5).trans rfl
  have o6 := (blk_cell hO 6).trans rfl
  have o7 := (blk_cell hO 7).trans rfl
  have o8 := (blk_cell hO 8).trans rfl
  have o9 := (blk_cell hO 9).trans rfl
  have o10 := (blk_cell hO 10).trans rfl
  have o11 := (blk_cell hO 11).trans rfl
  have o12 := (blk_cell hO 12).trans rfl
  have o13 := (blk_cell hO 13).trans rfl
  go_wp2_with fail
  refine (text_any id _ hi).mono ?_
  rintro e' w3 ⟨rfl, hb⟩
  clear o0 o1 o2 o3 o4 o5 o6 o7 o8 o9 o10 o11 o12 o13
  replace hO := blk_below hO hb
  replace hB := below_then hB hB.size hb
  clear hb
  go_wp2_with fail
  go_ret2
  exact ⟨rfl, hB⟩
 ·have u1 := trivial
  have u0 := trivial
  clear u0 u1
  have o0 := (blk_cell hO 0).trans rfl
  have o1 := (blk_cell hO 1).trans rfl
  have o2 := (blk_cell hO 2).trans rfl
  have o3 := (blk_cell hO 3).trans rfl
  have o4 := (blk_cell hO 4).trans rfl
  have o5 := (blk_cell hO 5).trans rfl
  have o6 := (blk_cell hO 6).trans rfl
  have o7 := (blk_cell hO 7).trans rfl
  have o8 := (blk_cell hO 8).trans rfl
  have o9 := (blk_cell hO 9).trans rfl
  have o10 := (blk_cell hO 10).trans rfl
  have o11 := (blk_cell hO 11).trans rfl
  have o12 := (blk_cell hO 12).trans rfl
  have o13 := (blk_cell hO 13).trans rfl
  go_wp2_with fail
  go_ret2
  exact ⟨rfl, hB⟩
end Go.Proofs.YtldlkbjbfgieeaaGreatDoor.Pw
