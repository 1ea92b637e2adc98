/- intent.PutState: what it lays. -/
/- thin -/
import Derived.Test.YtldlkbjbfgieeaaGreatDoorPw
import Derived.Test.YtldlkbjbfgieeaaGreatDoorPt
import Derived.Test.YtldlkbjbfgieeaaGreatDoorSb
namespace Go.Proofs.YtldlkbjbfgieeaaGreatDoor.Ps
set_option linter.unusedVariables false
set_option linter.unusedSimpArgs false
open Go.RowKit Go.Proofs.YtldlkbjbfgieeaaGreatDoorW.PrintWords Go.Proofs.YtldlkbjbfgieeaaGreatDoorW.PrintLast Mo Q Go.Proofs.YtldlkbjbfgieeaaGreatDoor.Num Ch Ap Pk Pw Pt Bw
open Go.Proofs.YtldlkbjbfgieeaaGreatDoor.Ri (rightS rightW rightN stV Small)
open Go.Proofs.YtldlkbjbfgieeaaGreatDoor.Rq (rdW rdN)
def Pb (w v0 v : World) (b1 b4 : Nat) (e : Int) (A B : Option Addr) (c d : Nat) (ws : List W) (ns : List N) (s : ByteArray) : Prop := Wr b4 b4 v0 v s ∧ v.heap[b1]? = some (.cells #[.int .i64 e, .slice A ws.length c, .slice B ns.length d] 27 (0, 0)) ∧ b1 < b4 ∧ Below w.heap.size w v ∧ w.heap.size ≤ b4 ∧ b4 ≤ v.heap.size
theorem Pb.below {w v0 v v' : World} {b1 b4 : Nat} {e : Int} {A B : Option Addr} {c d : Nat} {ws : List W} {ns : List N} {s : ByteArray} (h : Pb w v0 v b1 b4 e A B c d ws ns s) (hb : Below v.heap.size v v') : Pb w v0 v' b1 b4 e A B c d ws ns s :=
 ⟨h.1.below h.2.2.2.2.2 hb, blk_below h.2.1 hb, h.2.2.1, below_then h.2.2.2.1 h.2.2.2.1.size hb, h.2.2.2.2.1, Nat.le_trans h.2.2.2.2.2 hb.size⟩
theorem wr_below {b4 : Nat} {v0 v v' : World} {s t : ByteArray} (h' : Wr b4 b4 v0 v' t) (h : Wr b4 b4 v0 v s) (hk : v.heap.size ≤ v'.heap.size) : Below b4 v v' :=
 ⟨h'.2.1.os.trans h.2.1.os.symm, h'.2.1.tape.trans h.2.1.tape.symm, h'.2.1.output.trans h.2.1.output.symm, hk, fun k hk => (h'.2.1.block k hk).trans (h.2.1.block k hk).symm⟩
theorem Pb.write {w v0 v v' : World} {b1 b4 : Nat} {e : Int} {A B : Option Addr} {c d : Nat} {ws : List W} {ns : List N} {s t : ByteArray} (h : Pb w v0 v b1 b4 e A B c d ws ns s) (h' : Wr b4 b4 v0 v' t) (hk : v.heap.size ≤ v'.heap.size) : Pb w v0 v' b1 b4 e A B c d ws ns t := by
 have hb := wr_below h' h.1 hk
 exact ⟨h', (hb.block b1 h.2.2.1).trans h.2.1, h.2.2.1, h.2.2.2.1.trans (hb.mono h.2.2.2.2.1), h.2.2.2.2.1, Nat.le_trans h.2.2.2.2.2 hk⟩
theorem cat_size {α : Type} {f : α → ByteArray} {l : List α} (h : ∀ x ∈ l, (f x).size ≤ 500) : (catB f l).size ≤ 500 * l.length := by
 induction l with
 | nil => exact Nat.le_refl 0
 | cons x l ih =>
  have h1 := h x List.mem_cons_self
  have h2 := ih (fun z hz => h z (List.mem_cons_of_mem _ hz))
  show (f x ++ catB f l).size ≤ _
  rw [ByteArray.size_append, List.length_cons]
  omega
theorem take_cat {α : Type} {f : α → ByteArray} {z : α} {l : List α} {i : Nat} (h : i < l.length) : catB f (l.take (i + 1)) = catB f (l.take i) ++ f (l.getD i z) := by
 rw [List.take_add_one, List.getElem?_eq_getElem h, List.getD_eq_getElem?_getD, List.getElem?_eq_getElem h]
 exact catB_snoc f _ _
theorem take_le {α : Type} {f : α → ByteArray} {l : List α} (i : Nat) (hl : l.length ≤ 8) (h : ∀ x ∈ l, (f x).size ≤ 500) : (catB f (l.take i)).size ≤ 4000 := by
 have h1 := cat_size (l := l.take i) (fun x hx => h x (List.mem_of_mem_take hx))
 have h2 : (l.take i).length ≤ 8 := by rw [List.length_take]; omega
 omega
set_option maxHeartbeats 8000000 in
set_option maxRecDepth 100000 in
theorem putState_any (e : Int) (A B : Option Addr) (c d : Nat) (ws : List W) (ns : List N) (w : World) (hA : Kd.C k32 w A ws.length ws) (hc : ws.length ≤ c) (hN : Kd.C k34 w B ns.length ns) (hd : ns.length ≤ d) (hs : Small ws ns) (hr : rightS e ws ns = true) (hw : ∀ x ∈ ws, okW x) (hn : ∀ x ∈ ns, okN x) :
 Calls Tryz.prog 23 #[stV e A ws.length c B ns.length d] w fun e' w' => e' = .returned (.tuple #[.string (stateB e ws ns), .int .i64 0]) ∧ Below w.heap.size w w' := by
 have hri := Su.rightS_iff.1 hr
 have hB := below_alloc (Below.refl w.heap.size w) (stC e A ws.length c B ns.length d)
 have h1 := blk_new w (stC e A ws.length c B ns.length d)
 obtain ⟨b1, hb1_⟩ : ∃ b, b = w.heap.size := ⟨_, rfl⟩
 rw [← hb1_] at h1
 have hge1 : w.heap.size ≤ b1 := by omega
 replace hb1_ := Lib.hid hb1_
 replace hge1 := Lib.hid hge1
 replace hA := Aside0.mk hA
 replace hN := Aside0.mk hN
 replace hw := Aside0.mk hw
 replace hn := Aside0.mk hn
 have hww := Aside0.mk (fun x hx => wsz x (hw.out x hx))
 have hnn := Aside0.mk (fun x hx => nosz x (hn.out x hx))
 have s0 := (blk_cell h1 0).trans rfl
 have s1 := (blk_cell h1 1).trans rfl
 have s2 := (blk_cell h1 2).trans rfl
 go_enter Tryz.func23, Tryz.ntmps23
 go_wp2_with fail
 clear s0 s1 s2
 rw [← hb1_.out]
 revert hB; revert h1
 generalize w.alloc (stC e A ws.length c B ns.length d) = va
 intro h1 hB
 refine (Ri.right_any e A B c d ws ns va (Kd.C_below hA.out hB) hc (Kd.C_below hN.out hB) hd hs).mono ?_
 rintro e' vb ⟨rfl, hb⟩
 rw [hr]
 replace h1 := blk_below h1 hb
 replace hB := below_then hB hB.size hb
 clear hb
 have h4 := blk_new vb (.cells #[.pointer none, .slice none 0 0] 94)
 have hq := below_alloc (Below.refl vb.heap.size vb) (.cells #[.pointer none, .slice none 0 0] 94)
 obtain ⟨b4, hb4_⟩ : ∃ b, b = vb.heap.size := ⟨_, rfl⟩
 have hlt : b1 < b4 := by rw [hb4_]; exact blk_lt h1
 have hge4 : w.heap.size ≤ b4 := by rw [hb4_]; exact hB.size
 rw [← hb4_] at h4
 have h4s : b4 ≤ (vb.alloc (.cells #[.pointer none, .slice none 0 0] 94)).heap.size := by rw [hb4_]; exact hq.size
 replace h1 := blk_below h1 hq
 replace hB := below_then hB hB.size hq
 replace hb4_ := Lib.hid hb4_
 clear hq
 go_wp2_with fail
 rw [← hb4_.out]
 generalize vb.alloc (.cells #[.pointer none, .slice none 0 0] 94) = v0 at *
 have hbl0 : Lib.IsBuilder 94 5 b4 b4 (Lib.strCells ByteArray.empty) v0 := Or.inl ⟨Nat.le_refl _, .slice none 0 0, h4, ⟨rfl, .inl ⟨rfl, rfl⟩⟩, by simp [Value.ownBlock]⟩
 have hF := Aside0.mk (show Pb w v0 v0 b1 b4 e A B c d ws ns ByteArray.empty from ⟨Wr.refl hbl0, h1, hlt, hB, hge4, h4s⟩)
 clear h1 hB h4 hbl0 hlt hge4 h4s
 have z1 : (9223372036854775807 < (num e).size + (num ws.length).size) = False := eq_false (by have := nsz e; have := nsz ws.length; omega)
 refine start_ (n := 9) (S := fun w' => w'.cell? ⟨b1, 0, none⟩ = some (.int .i64 e) ∧ w'.cell? ⟨b1, 1, none⟩ = some (.slice A ws.length c)) (ds := []) (bt 9 0) (by kernel_rfl) rfl (by kernel_rfl) ⟨(blk_cell (w := v0) hF.out.2.1 0).trans rfl, (blk_cell (w := v0) hF.out.2.1 1).trans rfl⟩ (fun hHeld => ?_)
 replace hF := Aside0.mk (hF.out.below (below_drew (Below.refl _ _)))
 generalize v0.drew = wd at hHeld hF ⊢
 refine py 0 12 (bt 9 1) rfl rfl (h := ?_)
 refine ty 1 13 (bt 9 3) rfl rfl hHeld (h := ?_)
 refine py 3 15 (bt 9 11) rfl rfl (h := ?_)
 refine ty 4 16 (bt 9 27) rfl rfl hHeld (h := ?_)
 refine py 5 17 (bt 9 59) rfl rfl (h := ?_)
 refine oe 2 14 (bt 9 63) rfl rfl (fun K hK => ?_)
 refine goes_ Tryz.func45 (by kernel_rfl) rfl #[.int .i64 e] (by rfl) rfl rfl (by (try simp only [List.map_toArray, List.map_cons, List.map_nil]); rfl) ?_
 refine (num_any e _ ⟨by have := hri.1; omega, by have := hri.1; omega⟩).mono ?_
 rintro e' u2 ⟨rfl, hb⟩
 replace hF := Aside0.mk (hF.out.below hb)
 clear hb
 refine ⟨_, rfl, ?_⟩
 refine hK.out _ _ ⟨(blk_cell hF.out.2.1 0).trans rfl, (blk_cell hF.out.2.1 1).trans rfl⟩ (fun hHeld => ?_)
 clear hK K
 refine ny (h := ?_)
 refine oe 6 18 (bt 9 127) rfl rfl (fun K hK => ?_)
 refine goes_ Tryz.func45 (by kernel_rfl) rfl #[.int .i64 ws.length] (by rfl) rfl rfl (by (try simp only [List.map_toArray, List.map_cons, List.map_nil]); rfl) ?_
 refine (num_any ws.length _ (len_in ws (by have := hri.2.1; omega))).mono ?_
 rintro e' u6 ⟨rfl, hb⟩
 replace hF := Aside0.mk (hF.out.below hb)
 clear hb
 refine ⟨_, rfl, ?_⟩
 refine hK.out _ _ ⟨(blk_cell hF.out.2.1 0).trans rfl, (blk_cell hF.out.2.1 1).trans rfl⟩ (fun hHeld => ?_)
 clear hK K
 refine ny (h := ?_)
 refine py 7 19 (bt 9 255) rfl rfl (h := ?_)
 clear z1
 refine oe 8 20 (bt 9 511) rfl rfl (fun K hK => ?_)
 refine goes_ Tryz.func64 (by kernel_rfl) rfl #[.pointer (some ⟨b4, 0, none⟩), .string (num e ++ num ws.length)] (by rfl) rfl rfl (by (try simp only [List.map_toArray, List.map_cons, List.map_nil]); rfl) ?_
 refine (write_s b4 b4 ByteArray.empty (num e ++ num ws.length) v0 _ hF.out.1 (by have := nsz e; have := nsz ws.length; simp only [ByteArray.size_append, ByteArray.size_empty]; omega) hF.out.2.2.2.2.2).mono ?_
 rintro e' u8 ⟨rfl, hW, hK2⟩
 rw [ByteArray.empty_append] at hW
 replace hF := Aside0.mk (hF.out.write hW hK2.1)
 clear hW hK2
 refine ⟨_, rfl, ?_⟩
 refine hK.out _ _ ⟨(blk_cell hF.out.2.1 0).trans rfl, (blk_cell hF.out.2.1 1).trans rfl⟩ (fun hHeld => ?_)
 clear hK K
 refine ny (h := ?_)
 refine done_ (by kernel_rfl) ?_
 generalize (((num e ++ num ws.length).size : Nat) : Int) = zq
 obtain ⟨p0, hp0⟩ : ∃ s, s = num e ++ num ws.length := ⟨_, rfl⟩
 rw [← hp0] at hF
 have hz0 : p0.size ≤ 20 := by have := nsz e; have := nsz ws.length; rw [hp0, ByteArray.size_append]; omega
 replace hp0 := Lib.hid hp0
 have s1 := (blk_cell hF.out.2.1 1).trans rfl
 go_wp2_with fail
 clear s1 hHeld
 go_loopg [24] ws.length (fun kx v_ wr => ∃ i : Nat, v_ = .int .i64 (i : Int) ∧ i + kx = ws.length ∧ Aside0 (Pb w v0 wr b1 b4 e A B c d ws ns (p0 ++ catB workB (ws.take i))))
 case atStart => exact ⟨0, rfl, by omega, by rw [show p0 ++ catB workB (ws.take 0) = p0 from ByteArray.append_empty]; exact hF⟩
 case round =>
  clear hF
  obtain ⟨i, rfl, hik, hF⟩ := hrel
  by_cases hi : i < ws.length
  ·obtain ⟨m, rfl⟩ : ∃ m, gk = m + 1 := ⟨gk - 1, by omega⟩
   have d1 : decide ((i : Int) < (ws.length : Int)) = true := decide_eq_true (by omega)
   have hl8 := hri.2.1
   have hsz := take_le i hl8 hww.out
   have hmem : ws.getD i z32 ∈ ws := by rw [List.getD_eq_getElem?_getD, List.getElem?_eq_getElem hi]; exact List.getElem_mem _
   have hok := hw.out _ hmem
   have hxs := hww.out _ hmem
   have hnext := take_cat (f := workB) (z := z32) hi
   obtain ⟨ad, eA, c0, c1, c2, c3, c4, c5⟩ := at_T32 (Kd.C_below hA.out hF.out.2.2.2.1) (i : Int) (by omega) (by omega)
   cases eA
   rw [rdW, Int.toNat_natCast] at c0
   rw [rdW, Int.toNat_natCast] at c1
   rw [rdW, Int.toNat_natCast] at c2
   rw [rdW, Int.toNat_natCast] at c3
   rw [rdW, Int.toNat_natCast] at c4
   rw [rdW, Int.toNat_natCast] at c5
   obtain ⟨x, hx⟩ : ∃ x, x = ws.getD i z32 := ⟨_, rfl⟩
   rw [← hx] at hok hxs hnext c0 c1 c2 c3 c4 c5
   clear hx hmem
   replace hok := Aside0.mk hok
   replace hnext := Lib.hid hnext
   replace hxs := Lib.hid hxs
   replace hsz := Lib.hid hsz
   have pi : (0 ≤ (i : Int)) = True := eq_true (by omega)
   have qi : ((i : Int) < (ws.length : Int)) = True := eq_true (by omega)
   have hX := blk_new wr (.cells #[.string x.f0, .int .i64 x.f1, .int .i64 x.f2, .int .i64 x.f3, .int .i64 x.f4, .string x.f5] 32)
   have hq := below_alloc (Below.refl wr.heap.size wr) (.cells #[.string x.f0, .int .i64 x.f1, .int .i64 x.f2, .int .i64 x.f3, .int .i64 x.f4, .string x.f5] 32)
   have x0 := (blk_cell hX 0).trans rfl
   have x1 := (blk_cell hX 1).trans rfl
   have x2 := (blk_cell hX 2).trans rfl
   have x3 := (blk_cell hX 3).trans rfl
   have x4 := (blk_cell hX 4).trans rfl
   have x5 := (blk_cell hX 5).trans rfl
   go_wp2_with fail
   clear x0 x1 x2 x3 x4 x5 c0 c1 c2 c3 c4 c5 hX
   replace hF := Aside0.mk (hF.out.below hq)
   clear hq
   generalize wr.alloc (.cells #[.string x.f0, .int .i64 x.f1, .int .i64 x.f2, .int .i64 x.f3, .int .i64 x.f4, .string x.f5] 32) = wx at *
   generalize wr.heap.size = bx at *
   refine (putWork_any x wx hok.out).mono ?_
   rintro e' w2 ⟨rfl, hb⟩
   replace hF := Aside0.mk (hF.out.below hb)
   clear hb
   go_wp2_with fail
   refine (write_s b4 b4 (p0 ++ catB workB (ws.take i)) (workB x) v0 w2 hF.out.1 (by have := hxs.out; have := hsz.out; simp only [ByteArray.size_append]; omega) hF.out.2.2.2.2.2).mono ?_
   rintro e' w3 ⟨rfl, hW, hK2⟩
   rw [ByteArray.append_assoc, ← hnext.out] at hW
   replace hF := Aside0.mk (hF.out.write hW hK2.1)
   clear hW hK2
   go_wp2_with fail
   go_roundg m
   case measure => omega
   case rel => exact ⟨i + 1, by first | rfl | exact congrArg (Value.int .i64) (by (try simp only [IntKind.wrap_i64]); (try unfold wrap64); omega), by omega, hF⟩
  ·obtain rfl : i = ws.length := by omega
   have d1 : decide ((ws.length : Int) < (ws.length : Int)) = false := decide_eq_false (by omega)
   rw [List.take_length] at hF
   have hl8 := hri.2.1
   have hsz := take_le (f := workB) ws.length hl8 hww.out
   rw [List.take_length] at hsz
   have s2 := (blk_cell hF.out.2.1 2).trans rfl
   go_wp2_with fail
   clear s2
   refine (num_any ns.length _ (len_in ns (by have := hri.2.2.1; omega))).mono ?_
   rintro e' w4 ⟨rfl, hb⟩
   replace hF := Aside0.mk (hF.out.below hb)
   clear hb
   go_wp2_with fail
   refine (write_s b4 b4 (p0 ++ catB workB ws) (num ns.length) v0 w4 hF.out.1 (by have := nsz ns.length; simp only [ByteArray.size_append]; omega) hF.out.2.2.2.2.2).mono ?_
   rintro e' w5 ⟨rfl, hW, hK2⟩
   replace hF := Aside0.mk (hF.out.write hW hK2.1)
   clear hW hK2
   obtain ⟨p1, hp1⟩ : ∃ s, s = p0 ++ catB workB ws ++ num ns.length := ⟨_, rfl⟩
   rw [← hp1] at hF
   have hz1 : p1.size ≤ 4100 := by have := nsz ns.length; rw [hp1]; simp only [ByteArray.size_append]; omega
   replace hp1 := Lib.hid hp1
   clear hsz hl8 d1
   have s2 := (blk_cell hF.out.2.1 2).trans rfl
   go_wp2_with fail
   clear s2
   go_loopg [40] ns.length (fun kx v_ wr => ∃ i : Nat, v_ = .int .i64 (i : Int) ∧ i + kx = ns.length ∧ Aside0 (Pb w v0 wr b1 b4 e A B c d ws ns (p1 ++ catB nodeB (ns.take i))))
   case atStart => exact ⟨0, rfl, by omega, by rw [show p1 ++ catB nodeB (ns.take 0) = p1 from ByteArray.append_empty]; exact hF⟩
   case round =>
    clear hF
    obtain ⟨i, rfl, hik, hF⟩ := hrel
    by_cases hi : i < ns.length
    ·obtain ⟨m, rfl⟩ : ∃ m, gk = m + 1 := ⟨gk - 1, by omega⟩
     have d1 : decide ((i : Int) < (ns.length : Int)) = true := decide_eq_true (by omega)
     have hl8 := hri.2.2.1
     have hsz := take_le i hl8 hnn.out
     have hmem : ns.getD i z34 ∈ ns := by rw [List.getD_eq_getElem?_getD, List.getElem?_eq_getElem hi]; exact List.getElem_mem _
     have hok := hn.out _ hmem
     have hxs := hnn.out _ hmem
     have hnext := take_cat (f := nodeB) (z := z34) hi
     obtain ⟨ad, eA, c0, c1, c2, c3, c4⟩ := at_T34 (Kd.C_below hN.out hF.out.2.2.2.1) (i : Int) (by omega) (by omega)
     cases eA
     rw [rdN, Int.toNat_natCast] at c0
     rw [rdN, Int.toNat_natCast] at c1
     rw [rdN, Int.toNat_natCast] at c2
     rw [rdN, Int.toNat_natCast] at c3
     rw [rdN, Int.toNat_natCast] at c4
     obtain ⟨x, hx⟩ : ∃ x, x = ns.getD i z34 := ⟨_, rfl⟩
     rw [← hx] at hok hxs hnext c0 c1 c2 c3 c4
     clear hx hmem
     replace hok := Aside0.mk hok
     replace hnext := Lib.hid hnext
     replace hxs := Lib.hid hxs
     replace hsz := Lib.hid hsz
     have pi : (0 ≤ (i : Int)) = True := eq_true (by omega)
     have qi : ((i : Int) < (ns.length : Int)) = True := eq_true (by omega)
     have hX := blk_new wr (.cells #[.string x.f0, .int .i64 x.f1, .int .i64 x.f2, .string x.f3, .bool x.f4] 34)
     have hq := below_alloc (Below.refl wr.heap.size wr) (.cells #[.string x.f0, .int .i64 x.f1, .int .i64 x.f2, .string x.f3, .bool x.f4] 34)
     have x0 := (blk_cell hX 0).trans rfl
     have x1 := (blk_cell hX 1).trans rfl
     have x2 := (blk_cell hX 2).trans rfl
     have x3 := (blk_cell hX 3).trans rfl
     have x4 := (blk_cell hX 4).trans rfl
     go_wp2_with fail
     clear x0 x1 x2 x3 x4 c0 c1 c2 c3 c4 hX
     replace hF := Aside0.mk (hF.out.below hq)
     clear hq
     generalize wr.alloc (.cells #[.string x.f0, .int .i64 x.f1, .int .i64 x.f2, .string x.f3, .bool x.f4] 34) = wx at *
     generalize wr.heap.size = bx at *
     refine (putNode_any x wx hok.out).mono ?_
     rintro e' w2 ⟨rfl, hb⟩
     replace hF := Aside0.mk (hF.out.below hb)
     clear hb
     go_wp2_with fail
     refine (write_s b4 b4 (p1 ++ catB nodeB (ns.take i)) (nodeB x) v0 w2 hF.out.1 (by have := hxs.out; have := hsz.out; simp only [ByteArray.size_append]; omega) hF.out.2.2.2.2.2).mono ?_
     rintro e' w3 ⟨rfl, hW, hK2⟩
     rw [ByteArray.append_assoc, ← hnext.out] at hW
     replace hF := Aside0.mk (hF.out.write hW hK2.1)
     clear hW hK2
     go_wp2_with fail
     go_roundg m
     case measure => omega
     case rel => exact ⟨i + 1, by first | rfl | exact congrArg (Value.int .i64) (by (try simp only [IntKind.wrap_i64]); (try unfold wrap64); omega), by omega, hF⟩
    ·obtain rfl : i = ns.length := by omega
     have d1 : decide ((ns.length : Int) < (ns.length : Int)) = false := decide_eq_false (by omega)
     rw [List.take_length] at hF
     go_wp2_with fail
     refine (Sh.Tryz.Builder_String_any b4 b4 (p1 ++ catB nodeB ns).data.toList _ (by have := hF.out.1.1; rwa [Lib.strCells_eq] at this) hF.out.2.2.2.2.2).mono ?_
     rintro e' w8 ⟨rfl, hb8⟩
     have hB9 := hF.out.2.2.2.1.trans (hb8.mono hF.out.2.2.2.2.1)
     go_wp2_with fail
     go_ret2
     exact ⟨by rw [show stateB e ws ns = p1 ++ catB nodeB ns from by rw [hp1.out, hp0.out]; rfl]; first | rfl | simp only [Array.toArray_toList], hB9⟩
end Go.Proofs.YtldlkbjbfgieeaaGreatDoor.Ps
