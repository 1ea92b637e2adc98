/- The document's Right, of a problem. -/
/- thin -/
import Derived.Test.YtldlkbjbfgieeaaGreatDoorRk
import Derived.Test.YtldlkbjbfgieeaaGreatDoorMo
namespace Go.Proofs.YtldlkbjbfgieeaaGreatDoor.Rq
set_option linter.unusedVariables false
set_option linter.unusedSimpArgs false
open Go.RowKit Go.Proofs.YtldlkbjbfgieeaaGreatDoorW.PrintWords Go.Proofs.YtldlkbjbfgieeaaGreatDoorW.PrintLast Mo Q Go.Proofs.YtldlkbjbfgieeaaGreatDoor.Nm Cb Rk
open Go.Proofs.YtldlkbjbfgieeaaGreatDoor.Ri (W N rightW rightN goW goN rightP Small)
theorem rdW (l : List W) (j : Nat) : rd_T32 l (j : Int) = l.getD j z32 := by unfold rd_T32; rw [Int.toNat_natCast]
theorem rdN (l : List N) (j : Nat) : rd_T34 l (j : Int) = l.getD j z34 := by unfold rd_T34; rw [Int.toNat_natCast]
theorem nm_lt {s : ByteArray} (h : nm s = true) : lt ByteArray.empty s = true := by
 unfold nm at h
 simp only [Bool.and_eq_true, decide_eq_true_eq] at h
 unfold lt
 rw [ByteArray.toList_eq, ByteArray.toList_eq]
 cases q : s.data.toList with
 | nil => exact absurd (show s.size = 0 from by show s.data.size = 0; rw [← Array.length_toList, q]; rfl) (by omega)
 | cons a t => rfl
theorem nm_W {x : W} (h : rightW x = true) : lt ByteArray.empty x.f0 = true := by
 unfold rightW at h
 simp only [Bool.and_eq_true] at h
 exact nm_lt h.1.1.1.1.1
theorem nm_N {x : N} (h : rightN x = true) : lt ByteArray.empty x.f0 = true := by
 unfold rightN at h
 simp only [Bool.and_eq_true] at h
 exact nm_lt h.1.1.1
def Rb (w w' : World) (b : Nat) (A B : Option Addr) (n c m d : Nat) : Prop := w'.heap[b]? = some (.cells #[.slice A n c, .slice B m d] 67 (0, 0)) ∧ Below w.heap.size w w'
theorem Rb.below {w w' w2 : World} {b : Nat} {A B : Option Addr} {n c m d : Nat} (h : Rb w w' b A B n c m d) (hb : Below w'.heap.size w' w2) : Rb w w2 b A B n c m d := ⟨blk_below h.1 hb, below_then h.2 h.2.size hb⟩
set_option maxHeartbeats 8000000 in
set_option maxRecDepth 100000 in
theorem rprob_any (A B : Option Addr) (c d : Nat) (ws : List W) (ns : List N) (w : World) (hA : Kd.C k32 w A ws.length ws) (hc : ws.length ≤ c) (hN : Kd.C k34 w B ns.length ns) (hd : ns.length ≤ d) (hs : Small ws ns) :
 Calls Tryz.prog 67 #[.agg #[.slice A ws.length c, .slice B ns.length d]] w fun e w' => e = .returned (.bool (rightP ws ns)) ∧ Below w.heap.size w w' := by
 have hF := Aside0.mk (show Rb w (w.alloc (.cells #[.slice A ws.length c, .slice B ns.length d] 67)) w.heap.size A B ws.length c ns.length d from ⟨blk_new w _, below_alloc (Below.refl _ _) _⟩)
 have b0 := (blk_cell hF.out.1 0).trans rfl
 have b1 := (blk_cell hF.out.1 1).trans rfl
 obtain ⟨r, hr⟩ : ∃ r, r = rightP ws ns := ⟨_, rfl⟩
 rw [← hr]
 unfold rightP at hr
 generalize hG : goW ws ByteArray.empty = G at hr
 generalize hH : goN ns ByteArray.empty = H at hr
 replace hG := Lib.hid hG
 replace hH := Lib.hid hH
 replace hr := Lib.hid hr
 have hs := Aside0.mk hs
 replace hA := Aside0.mk hA
 replace hN := Aside0.mk hN
 by_cases h8 : ws.length ≤ 8
 ·have d8 : decide ((8 : Int) < (ws.length : Int)) = false := decide_eq_false (by omega)
  by_cases h9 : ns.length ≤ 8
  ·have d9 : decide ((8 : Int) < (ns.length : Int)) = false := decide_eq_false (by omega)
   go_enter Tryz.func67, Tryz.ntmps67
   go_wp2_with fail
   clear d8 d9 b0 b1
   generalize w.heap.size = b at hF
   go_loopg [3] ws.length (fun kx v_ wr => ∃ i : Nat, v_ = .int .i64 (i : Int) ∧ i + kx = ws.length ∧ Aside0 (Rb w wr b A B ws.length c ns.length d) ∧ Aside0 (G = goW (ws.drop i) (if i = 0 then ByteArray.empty else (ws.getD (i - 1) z32).f0)))
   case atStart => exact ⟨0, rfl, by omega, hF, Aside0.mk hG.out.symm⟩
   case round =>
    clear hF
    obtain ⟨i, rfl, hik, hF, hI⟩ := hrel
    have b0 := (blk_cell hF.out.1 0).trans rfl
    have b1 := (blk_cell hF.out.1 1).trans rfl
    by_cases hi : i < ws.length
    ·obtain ⟨m, rfl⟩ : ∃ m, gk = m + 1 := ⟨gk - 1, by omega⟩
     have d1 : decide ((i : Int) < (ws.length : Int)) = true := decide_eq_true (by omega)
     have hsz := hs.out.1 (ws.getD i z32) (by rw [List.getD_eq_getElem?_getD, List.getElem?_eq_getElem hi]; exact List.getElem_mem _)
     have hd : ws.drop i = ws.getD i z32 :: ws.drop (i + 1) := by
      rw [List.drop_eq_getElem_cons hi, List.getD_eq_getElem?_getD, List.getElem?_eq_getElem hi]; rfl
     have hI' := hI.out
     rw [hd] at hI'
     unfold goW at hI'
     clear hd hI
     obtain ⟨ad, eA, c0, c1, c2, c3, c4, c5⟩ := at_T32 (Kd.C_below hA.out hF.out.2) (i : Int) (by omega) (by omega)
     cases eA
     rw [rdW, Int.toNat_natCast] at c0
     rw [rdW, Int.toNat_natCast] at c1
     rw [rdW, Int.toNat_natCast] at c2
     rw [rdW, Int.toNat_natCast] at c3
     rw [rdW, Int.toNat_natCast] at c4
     rw [rdW, Int.toNat_natCast] at c5
     obtain ⟨x, hx⟩ : ∃ x, x = ws.getD i z32 := ⟨_, rfl⟩
     rw [← hx] at hI' hsz c0 c1 c2 c3 c4 c5
     replace hx := Lib.hid hx
     have pi : (0 ≤ (i : Int)) = True := eq_true (by omega)
     have qi : ((i : Int) < (ws.length : Int)) = True := eq_true (by omega)
     have hcl := fun W => rwork_any x W hsz
     cases hrw : rightW x with
     | false =>
      rw [hrw] at hcl hI'
      have hcl' := Aside0.mk hcl
      clear hcl
      have hbad := Aside0.mk (show (decide (ws.length ≤ 8) && decide (ns.length ≤ 8) && G && H) = false from by rw [show G = false from hI']; simp)
      clear hI'
      go_wp2_with (go_at_call 84; refine (hcl'.out _).mono ?_; rintro e w2 ⟨rfl, hb2⟩; replace hF := Aside0.mk (hF.out.below hb2))
      refine start_ (n := 22) (S := fun w' => True) (ds := []) (bt 22 0) (by kernel_rfl) rfl (by kernel_rfl) (trivial) (fun hHeld => ?_)
      replace hF := Aside0.mk (hF.out.below (below_drew (Below.refl _ _)))
      generalize w2.drew = wd at *
      refine py 0 30 (bt 22 1) rfl rfl (h := ?_)
      refine py 1 31 (bt 22 3) rfl rfl (h := ?_)
      refine py 2 32 (bt 22 7) rfl rfl (h := ?_)
      refine oy 3 33 (bt 22 15) rfl rfl (h := ?_)
      refine oy 4 34 (bt 22 31) rfl rfl (h := ?_)
      refine oy 5 35 (bt 22 63) rfl rfl (h := ?_)
      refine oy 6 36 (bt 22 127) rfl rfl (h := ?_)
      refine oy 7 37 (bt 22 255) rfl rfl (h := ?_)
      refine oy 8 38 (bt 22 511) rfl rfl (h := ?_)
      refine oy 9 39 (bt 22 1023) rfl rfl (h := ?_)
      refine oy 10 40 (bt 22 2047) rfl rfl (h := ?_)
      refine oy 11 41 (bt 22 4095) rfl rfl (h := ?_)
      refine oy 12 42 (bt 22 8191) rfl rfl (h := ?_)
      refine oy 13 43 (bt 22 16383) rfl rfl (h := ?_)
      refine oy 14 44 (bt 22 32767) rfl rfl (h := ?_)
      refine oy 15 45 (bt 22 65535) rfl rfl (h := ?_)
      refine oy 16 46 (bt 22 131071) rfl rfl (h := ?_)
      refine oy 17 47 (bt 22 262143) rfl rfl (h := ?_)
      refine oy 18 48 (bt 22 524287) rfl rfl (h := ?_)
      refine oy 19 49 (bt 22 1048575) rfl rfl (h := ?_)
      refine oy 20 50 (bt 22 2097151) rfl rfl (h := ?_)
      refine py 21 51 (bt 22 4194303) rfl rfl (h := ?_)
      refine done_ (by kernel_rfl) ?_
      go_wp2_with fail
      go_ret
      exact ⟨by rw [hr.out, hbad.out]; rfl, hF.out.2⟩
     | true =>
      have hnm := nm_W hrw
      rw [hrw] at hcl hI'
      have hcl' := Aside0.mk hcl
      clear hcl
      by_cases i0 : i = 0
      ·rw [if_pos i0, hnm] at hI'
       have hI2 := Aside0.mk hI'
       clear hI'
       have dz : decide ((0 : Int) < (i : Int)) = false := decide_eq_false (by omega)
       have dy : decide (0 < i) = false := decide_eq_false (by omega)
       clear i0
       go_wp2_with (go_at_call 84; refine (hcl'.out _).mono ?_; rintro e w2 ⟨rfl, hb2⟩; replace hF := Aside0.mk (hF.out.below hb2))
       refine start_ (n := 22) (S := fun w' => True) (ds := []) (bt 22 0) (by kernel_rfl) rfl (by kernel_rfl) (trivial) (fun hHeld => ?_)
       replace hF := Aside0.mk (hF.out.below (below_drew (Below.refl _ _)))
       generalize w2.drew = wd at *
       refine py 0 30 (bt 22 1) rfl rfl (h := ?_)
       refine py 1 31 (bt 22 3) rfl rfl (h := ?_)
       refine py 2 32 (bt 22 7) rfl rfl (h := ?_)
       refine py 3 33 (bt 22 15) rfl rfl (h := ?_)
       refine py 4 34 (bt 22 31) rfl rfl (h := ?_)
       refine py 5 35 (bt 22 63) rfl rfl (h := ?_)
       refine oy 6 36 (bt 22 127) rfl rfl (h := ?_)
       refine oy 7 37 (bt 22 255) rfl rfl (h := ?_)
       refine oy 8 38 (bt 22 511) rfl rfl (h := ?_)
       refine oy 9 39 (bt 22 1023) rfl rfl (h := ?_)
       refine oy 10 40 (bt 22 2047) rfl rfl (h := ?_)
       refine oy 11 41 (bt 22 4095) rfl rfl (h := ?_)
       refine oy 12 42 (bt 22 8191) rfl rfl (h := ?_)
       refine oy 13 43 (bt 22 16383) rfl rfl (h := ?_)
       refine oy 14 44 (bt 22 32767) rfl rfl (h := ?_)
       refine oy 15 45 (bt 22 65535) rfl rfl (h := ?_)
       refine oy 16 46 (bt 22 131071) rfl rfl (h := ?_)
       refine oy 17 47 (bt 22 262143) rfl rfl (h := ?_)
       refine oy 18 48 (bt 22 524287) rfl rfl (h := ?_)
       refine oy 19 49 (bt 22 1048575) rfl rfl (h := ?_)
       refine py 20 50 (bt 22 2097151) rfl rfl (h := ?_)
       refine py 21 51 (bt 22 4194303) rfl rfl (h := ?_)
       refine done_ (by kernel_rfl) ?_
       go_wp2_with fail
       go_roundg m
       case measure => omega
       case rel => exact ⟨i + 1, by first | rfl | (simp; done), by omega, hF, Aside0.mk (by have := hI2.out; rw [if_neg (Nat.succ_ne_zero i), Nat.add_sub_cancel, ← hx.out]; simpa using this)⟩
      ·rw [if_neg i0] at hI'
       have w1 : wrap64 ((i : Int) - 1) = ((i - 1 : Nat) : Int) := by unfold wrap64; omega
       obtain ⟨_, eA, p0, _⟩ := at_T32 (Kd.C_below hA.out hF.out.2) (wrap64 ((i : Int) - 1)) (by omega) (by omega)
       cases eA
       rw [w1, rdW] at p0
       rw [← w1] at p0
       have pj : (0 ≤ wrap64 ((i : Int) - 1)) = True := eq_true (by omega)
       have qj : (wrap64 ((i : Int) - 1) < (ws.length : Int)) = True := eq_true (by omega)
       have dz : decide ((0 : Int) < (i : Int)) = true := decide_eq_true (by omega)
       have dy : decide (0 < i) = true := decide_eq_true (by omega)
       clear w1 i0
       obtain ⟨y, hy⟩ : ∃ y, y = (ws.getD (i - 1) z32).f0 := ⟨_, rfl⟩
       rw [← hy] at hI' p0
       replace hy := Lib.hid hy
       have hlt : lt y x.f0 = Op.bytesLess y.toList x.f0.toList := rfl
       cases hl : Op.bytesLess y.toList x.f0.toList with
       | false =>
        rw [hlt, hl] at hI'
        have hbad := Aside0.mk (show (decide (ws.length ≤ 8) && decide (ns.length ≤ 8) && G && H) = false from by rw [show G = false from hI']; simp)
        clear hI'
        go_wp2_with (go_at_call 84; refine (hcl'.out _).mono ?_; rintro e w2 ⟨rfl, hb2⟩; have hb2_ := Aside0.mk hb2; replace hF := Aside0.mk (hF.out.below hb2))
        refine start_ (n := 22) (S := fun w' => w'.cell? ⟨b, 0, none⟩ = some (.slice (some ad) ws.length c) ∧ w'.cell? (ad.add ((wrap64 ((i : Int) - 1)).toNat * 6)) = some (.string y) ∧ w'.cell? (ad.add (i * 6)) = some (.string x.f0)) (ds := []) (bt 22 0) (by kernel_rfl) rfl (by kernel_rfl) (⟨(blk_cell (w := w2) hF.out.1 0).trans rfl, (hb2_.out.cell (World.block_lt_of_cell? _ _ p0)).trans p0, (hb2_.out.cell (World.block_lt_of_cell? _ _ c0)).trans c0⟩) (fun hHeld => ?_)
        replace hF := Aside0.mk (hF.out.below (below_drew (Below.refl _ _)))
        generalize w2.drew = wd at *
        refine py 0 30 (bt 22 1) rfl rfl (h := ?_)
        refine py 1 31 (bt 22 3) rfl rfl (h := ?_)
        refine py 2 32 (bt 22 7) rfl rfl (h := ?_)
        refine py 3 33 (bt 22 15) rfl rfl (h := ?_)
        refine py 4 34 (bt 22 31) rfl rfl (h := ?_)
        refine py 5 35 (bt 22 63) rfl rfl (h := ?_)
        refine py 6 36 (bt 22 127) rfl rfl (h := ?_)
        refine ty 7 37 (bt 22 255) rfl rfl hHeld (h := ?_)
        refine py 8 38 (bt 22 511) rfl rfl (h := ?_)
        refine py 9 39 (bt 22 1023) rfl rfl (h := ?_)
        refine py 10 40 (bt 22 2047) rfl rfl (h := ?_)
        refine py 11 41 (bt 22 4095) rfl rfl (h := ?_)
        refine ty 12 42 (bt 22 8191) rfl rfl hHeld (h := ?_)
        refine py 13 43 (bt 22 16383) rfl rfl (h := ?_)
        refine ty 14 44 (bt 22 32767) rfl rfl hHeld (h := ?_)
        refine py 15 45 (bt 22 65535) rfl rfl (h := ?_)
        refine py 16 46 (bt 22 131071) rfl rfl (h := ?_)
        refine py 17 47 (bt 22 262143) rfl rfl (h := ?_)
        refine ty 18 48 (bt 22 524287) rfl rfl hHeld (h := ?_)
        refine py 19 49 (bt 22 1048575) rfl rfl (h := ?_)
        refine py 20 50 (bt 22 2097151) rfl rfl (h := ?_)
        refine py 21 51 (bt 22 4194303) rfl rfl (h := ?_)
        refine done_ (by kernel_rfl) ?_
        go_wp2_with fail
        go_ret
        exact ⟨by rw [hr.out, hbad.out]; rfl, hF.out.2⟩
       | true =>
        rw [hlt, hl] at hI'
        have hI2 := Aside0.mk hI'
        clear hI'
        go_wp2_with (go_at_call 84; refine (hcl'.out _).mono ?_; rintro e w2 ⟨rfl, hb2⟩; have hb2_ := Aside0.mk hb2; replace hF := Aside0.mk (hF.out.below hb2))
        refine start_ (n := 22) (S := fun w' => w'.cell? ⟨b, 0, none⟩ = some (.slice (some ad) ws.length c) ∧ w'.cell? (ad.add ((wrap64 ((i : Int) - 1)).toNat * 6)) = some (.string y) ∧ w'.cell? (ad.add (i * 6)) = some (.string x.f0)) (ds := []) (bt 22 0) (by kernel_rfl) rfl (by kernel_rfl) (⟨(blk_cell (w := w2) hF.out.1 0).trans rfl, (hb2_.out.cell (World.block_lt_of_cell? _ _ p0)).trans p0, (hb2_.out.cell (World.block_lt_of_cell? _ _ c0)).trans c0⟩) (fun hHeld => ?_)
        replace hF := Aside0.mk (hF.out.below (below_drew (Below.refl _ _)))
        generalize w2.drew = wd at *
        refine py 0 30 (bt 22 1) rfl rfl (h := ?_)
        refine py 1 31 (bt 22 3) rfl rfl (h := ?_)
        refine py 2 32 (bt 22 7) rfl rfl (h := ?_)
        refine py 3 33 (bt 22 15) rfl rfl (h := ?_)
        refine py 4 34 (bt 22 31) rfl rfl (h := ?_)
        refine py 5 35 (bt 22 63) rfl rfl (h := ?_)
        refine py 6 36 (bt 22 127) rfl rfl (h := ?_)
        refine ty 7 37 (bt 22 255) rfl rfl hHeld (h := ?_)
        refine py 8 38 (bt 22 511) rfl rfl (h := ?_)
        refine py 9 39 (bt 22 1023) rfl rfl (h := ?_)
        refine py 10 40 (bt 22 2047) rfl rfl (h := ?_)
        refine py 11 41 (bt 22 4095) rfl rfl (h := ?_)
        refine ty 12 42 (bt 22 8191) rfl rfl hHeld (h := ?_)
        refine py 13 43 (bt 22 16383) rfl rfl (h := ?_)
        refine ty 14 44 (bt 22 32767) rfl rfl hHeld (h := ?_)
        refine py 15 45 (bt 22 65535) rfl rfl (h := ?_)
        refine py 16 46 (bt 22 131071) rfl rfl (h := ?_)
        refine py 17 47 (bt 22 262143) rfl rfl (h := ?_)
        refine ty 18 48 (bt 22 524287) rfl rfl hHeld (h := ?_)
        refine py 19 49 (bt 22 1048575) rfl rfl (h := ?_)
        refine py 20 50 (bt 22 2097151) rfl rfl (h := ?_)
        refine py 21 51 (bt 22 4194303) rfl rfl (h := ?_)
        refine done_ (by kernel_rfl) ?_
        go_wp2_with fail
        go_roundg m
        case measure => omega
        case rel => exact ⟨i + 1, by first | rfl | (simp; done), by omega, hF, Aside0.mk (by have := hI2.out; rw [if_neg (Nat.succ_ne_zero i), Nat.add_sub_cancel, ← hx.out]; simpa using this)⟩
    ·obtain rfl : i = ws.length := by omega
     have d1 : decide ((ws.length : Int) < (ws.length : Int)) = false := decide_eq_false (by omega)
     have hI' := hI.out
     rw [List.drop_length] at hI'
     replace hI' := Lib.hid (show G = true from hI')
     clear hI
     go_wp2_with fail
     clear b0 b1
     have hI1 := hI'
     clear hI'
     go_loopg [5] ns.length (fun kx v_ wr => ∃ i : Nat, v_ = .int .i64 (i : Int) ∧ i + kx = ns.length ∧ Aside0 (Rb w wr b A B ws.length c ns.length d) ∧ Aside0 (H = goN (ns.drop i) (if i = 0 then ByteArray.empty else (ns.getD (i - 1) z34).f0)))
     case atStart => exact ⟨0, rfl, by omega, hF, Aside0.mk hH.out.symm⟩
     case round =>
      clear hF
      obtain ⟨i, rfl, hik, hF, hI⟩ := hrel
      have b0 := (blk_cell hF.out.1 0).trans rfl
      have b1 := (blk_cell hF.out.1 1).trans rfl
      by_cases hi : i < ns.length
      ·obtain ⟨m, rfl⟩ : ∃ m, gk = m + 1 := ⟨gk - 1, by omega⟩
       have d1 : decide ((i : Int) < (ns.length : Int)) = true := decide_eq_true (by omega)
       have hsz := hs.out.2 (ns.getD i z34) (by rw [List.getD_eq_getElem?_getD, List.getElem?_eq_getElem hi]; exact List.getElem_mem _)
       have hd : ns.drop i = ns.getD i z34 :: ns.drop (i + 1) := by
        rw [List.drop_eq_getElem_cons hi, List.getD_eq_getElem?_getD, List.getElem?_eq_getElem hi]; rfl
       have hI' := hI.out
       rw [hd] at hI'
       unfold goN at hI'
       clear hd hI
       obtain ⟨ad, eA, c0, c1, c2, c3, c4⟩ := at_T34 (Kd.C_below hN.out hF.out.2) (i : Int) (by omega) (by omega)
       cases eA
       rw [rdN, Int.toNat_natCast] at c0
       rw [rdN, Int.toNat_natCast] at c1
       rw [rdN, Int.toNat_natCast] at c2
       rw [rdN, Int.toNat_natCast] at c3
       rw [rdN, Int.toNat_natCast] at c4
       obtain ⟨x, hx⟩ : ∃ x, x = ns.getD i z34 := ⟨_, rfl⟩
       rw [← hx] at hI' hsz c0 c1 c2 c3 c4
       replace hx := Lib.hid hx
       have pi : (0 ≤ (i : Int)) = True := eq_true (by omega)
       have qi : ((i : Int) < (ns.length : Int)) = True := eq_true (by omega)
       have hcl := fun W => rnode_any x W hsz
       cases hrw : rightN x with
       | false =>
        rw [hrw] at hcl hI'
        have hcl' := Aside0.mk hcl
        clear hcl
        have hbad := Aside0.mk (show (decide (ws.length ≤ 8) && decide (ns.length ≤ 8) && G && H) = false from by rw [show H = false from hI']; simp)
        clear hI'
        go_wp2_with (go_at_call 85; refine (hcl'.out _).mono ?_; rintro e w2 ⟨rfl, hb2⟩; replace hF := Aside0.mk (hF.out.below hb2))
        refine start_ (n := 22) (S := fun w' => True) (ds := []) (bt 22 0) (by kernel_rfl) rfl (by kernel_rfl) (trivial) (fun hHeld => ?_)
        replace hF := Aside0.mk (hF.out.below (below_drew (Below.refl _ _)))
        generalize w2.drew = wd at *
        refine py 0 65 (bt 22 1) rfl rfl (h := ?_)
        refine py 1 66 (bt 22 3) rfl rfl (h := ?_)
        refine py 2 67 (bt 22 7) rfl rfl (h := ?_)
        refine oy 3 68 (bt 22 15) rfl rfl (h := ?_)
        refine oy 4 69 (bt 22 31) rfl rfl (h := ?_)
        refine oy 5 70 (bt 22 63) rfl rfl (h := ?_)
        refine oy 6 71 (bt 22 127) rfl rfl (h := ?_)
        refine oy 7 72 (bt 22 255) rfl rfl (h := ?_)
        refine oy 8 73 (bt 22 511) rfl rfl (h := ?_)
        refine oy 9 74 (bt 22 1023) rfl rfl (h := ?_)
        refine oy 10 75 (bt 22 2047) rfl rfl (h := ?_)
        refine oy 11 76 (bt 22 4095) rfl rfl (h := ?_)
        refine oy 12 77 (bt 22 8191) rfl rfl (h := ?_)
        refine oy 13 78 (bt 22 16383) rfl rfl (h := ?_)
        refine oy 14 79 (bt 22 32767) rfl rfl (h := ?_)
        refine oy 15 80 (bt 22 65535) rfl rfl (h := ?_)
        refine oy 16 81 (bt 22 131071) rfl rfl (h := ?_)
        refine oy 17 82 (bt 22 262143) rfl rfl (h := ?_)
        refine oy 18 83 (bt 22 524287) rfl rfl (h := ?_)
        refine oy 19 84 (bt 22 1048575) rfl rfl (h := ?_)
        refine oy 20 85 (bt 22 2097151) rfl rfl (h := ?_)
        refine py 21 86 (bt 22 4194303) rfl rfl (h := ?_)
        refine done_ (by kernel_rfl) ?_
        go_wp2_with fail
        go_ret
        exact ⟨by rw [hr.out, hbad.out]; rfl, hF.out.2⟩
       | true =>
        have hnm := nm_N hrw
        rw [hrw] at hcl hI'
        have hcl' := Aside0.mk hcl
        clear hcl
        by_cases i0 : i = 0
        ·rw [if_pos i0, hnm] at hI'
         have hI2 := Aside0.mk hI'
         clear hI'
         have dz : decide ((0 : Int) < (i : Int)) = false := decide_eq_false (by omega)
         have dy : decide (0 < i) = false := decide_eq_false (by omega)
         clear i0
         go_wp2_with (go_at_call 85; refine (hcl'.out _).mono ?_; rintro e w2 ⟨rfl, hb2⟩; replace hF := Aside0.mk (hF.out.below hb2))
         refine start_ (n := 22) (S := fun w' => True) (ds := []) (bt 22 0) (by kernel_rfl) rfl (by kernel_rfl) (trivial) (fun hHeld => ?_)
         replace hF := Aside0.mk (hF.out.below (below_drew (Below.refl _ _)))
         generalize w2.drew = wd at *
         refine py 0 65 (bt 22 1) rfl rfl (h := ?_)
         refine py 1 66 (bt 22 3) rfl rfl (h := ?_)
         refine py 2 67 (bt 22 7) rfl rfl (h := ?_)
         refine py 3 68 (bt 22 15) rfl rfl (h := ?_)
         refine py 4 69 (bt 22 31) rfl rfl (h := ?_)
         refine py 5 70 (bt 22 63) rfl rfl (h := ?_)
         refine oy 6 71 (bt 22 127) rfl rfl (h := ?_)
         refine oy 7 72 (bt 22 255) rfl rfl (h := ?_)
         refine oy 8 73 (bt 22 511) rfl rfl (h := ?_)
         refine oy 9 74 (bt 22 1023) rfl rfl (h := ?_)
         refine oy 10 75 (bt 22 2047) rfl rfl (h := ?_)
         refine oy 11 76 (bt 22 4095) rfl rfl (h := ?_)
         refine oy 12 77 (bt 22 8191) rfl rfl (h := ?_)
         refine oy 13 78 (bt 22 16383) rfl rfl (h := ?_)
         refine oy 14 79 (bt 22 32767) rfl rfl (h := ?_)
         refine oy 15 80 (bt 22 65535) rfl rfl (h := ?_)
         refine oy 16 81 (bt 22 131071) rfl rfl (h := ?_)
         refine oy 17 82 (bt 22 262143) rfl rfl (h := ?_)
         refine oy 18 83 (bt 22 524287) rfl rfl (h := ?_)
         refine oy 19 84 (bt 22 1048575) rfl rfl (h := ?_)
         refine py 20 85 (bt 22 2097151) rfl rfl (h := ?_)
         refine py 21 86 (bt 22 4194303) rfl rfl (h := ?_)
         refine done_ (by kernel_rfl) ?_
         go_wp2_with fail
         go_roundg m
         case measure => omega
         case rel => exact ⟨i + 1, by first | rfl | (simp; done), by omega, hF, Aside0.mk (by have := hI2.out; rw [if_neg (Nat.succ_ne_zero i), Nat.add_sub_cancel, ← hx.out]; simpa using this)⟩
        ·rw [if_neg i0] at hI'
         have w1 : wrap64 ((i : Int) - 1) = ((i - 1 : Nat) : Int) := by unfold wrap64; omega
         obtain ⟨_, eA, p0, _⟩ := at_T34 (Kd.C_below hN.out hF.out.2) (wrap64 ((i : Int) - 1)) (by omega) (by omega)
         cases eA
         rw [w1, rdN] at p0
         rw [← w1] at p0
         have pj : (0 ≤ wrap64 ((i : Int) - 1)) = True := eq_true (by omega)
         have qj : (wrap64 ((i : Int) - 1) < (ns.length : Int)) = True := eq_true (by omega)
         have dz : decide ((0 : Int) < (i : Int)) = true := decide_eq_true (by omega)
         have dy : decide (0 < i) = true := decide_eq_true (by omega)
         clear w1 i0
         obtain ⟨y, hy⟩ : ∃ y, y = (ns.getD (i - 1) z34).f0 := ⟨_, rfl⟩
         rw [← hy] at hI' p0
         replace hy := Lib.hid hy
         have hlt : lt y x.f0 = Op.bytesLess y.toList x.f0.toList := rfl
         cases hl : Op.bytesLess y.toList x.f0.toList with
         | false =>
          rw [hlt, hl] at hI'
          have hbad := Aside0.mk (show (decide (ws.length ≤ 8) && decide (ns.length ≤ 8) && G && H) = false from by rw [show H = false from hI']; simp)
          clear hI'
          go_wp2_with (go_at_call 85; refine (hcl'.out _).mono ?_; rintro e w2 ⟨rfl, hb2⟩; have hb2_ := Aside0.mk hb2; replace hF := Aside0.mk (hF.out.below hb2))
          refine start_ (n := 22) (S := fun w' => w'.cell? ⟨b, 1, none⟩ = some (.slice (some ad) ns.length d) ∧ w'.cell? (ad.add ((wrap64 ((i : Int) - 1)).toNat * 5)) = some (.string y) ∧ w'.cell? (ad.add (i * 5)) = some (.string x.f0)) (ds := []) (bt 22 0) (by kernel_rfl) rfl (by kernel_rfl) (⟨(blk_cell (w := w2) hF.out.1 1).trans rfl, (hb2_.out.cell (World.block_lt_of_cell? _ _ p0)).trans p0, (hb2_.out.cell (World.block_lt_of_cell? _ _ c0)).trans c0⟩) (fun hHeld => ?_)
          replace hF := Aside0.mk (hF.out.below (below_drew (Below.refl _ _)))
          generalize w2.drew = wd at *
          refine py 0 65 (bt 22 1) rfl rfl (h := ?_)
          refine py 1 66 (bt 22 3) rfl rfl (h := ?_)
          refine py 2 67 (bt 22 7) rfl rfl (h := ?_)
          refine py 3 68 (bt 22 15) rfl rfl (h := ?_)
          refine py 4 69 (bt 22 31) rfl rfl (h := ?_)
          refine py 5 70 (bt 22 63) rfl rfl (h := ?_)
          refine py 6 71 (bt 22 127) rfl rfl (h := ?_)
          refine ty 7 72 (bt 22 255) rfl rfl hHeld (h := ?_)
          refine py 8 73 (bt 22 511) rfl rfl (h := ?_)
          refine py 9 74 (bt 22 1023) rfl rfl (h := ?_)
          refine py 10 75 (bt 22 2047) rfl rfl (h := ?_)
          refine py 11 76 (bt 22 4095) rfl rfl (h := ?_)
          refine ty 12 77 (bt 22 8191) rfl rfl hHeld (h := ?_)
          refine py 13 78 (bt 22 16383) rfl rfl (h := ?_)
          refine ty 14 79 (bt 22 32767) rfl rfl hHeld (h := ?_)
          refine py 15 80 (bt 22 65535) rfl rfl (h := ?_)
          refine py 16 81 (bt 22 131071) rfl rfl (h := ?_)
          refine py 17 82 (bt 22 262143) rfl rfl (h := ?_)
          refine ty 18 83 (bt 22 524287) rfl rfl hHeld (h := ?_)
          refine py 19 84 (bt 22 1048575) rfl rfl (h := ?_)
          refine py 20 85 (bt 22 2097151) rfl rfl (h := ?_)
          refine py 21 86 (bt 22 4194303) rfl rfl (h := ?_)
          refine done_ (by kernel_rfl) ?_
          go_wp2_with fail
          go_ret
          exact ⟨by rw [hr.out, hbad.out]; rfl, hF.out.2⟩
         | true =>
          rw [hlt, hl] at hI'
          have hI2 := Aside0.mk hI'
          clear hI'
          go_wp2_with (go_at_call 85; refine (hcl'.out _).mono ?_; rintro e w2 ⟨rfl, hb2⟩; have hb2_ := Aside0.mk hb2; replace hF := Aside0.mk (hF.out.below hb2))
          refine start_ (n := 22) (S := fun w' => w'.cell? ⟨b, 1, none⟩ = some (.slice (some ad) ns.length d) ∧ w'.cell? (ad.add ((wrap64 ((i : Int) - 1)).toNat * 5)) = some (.string y) ∧ w'.cell? (ad.add (i * 5)) = some (.string x.f0)) (ds := []) (bt 22 0) (by kernel_rfl) rfl (by kernel_rfl) (⟨(blk_cell (w := w2) hF.out.1 1).trans rfl, (hb2_.out.cell (World.block_lt_of_cell? _ _ p0)).trans p0, (hb2_.out.cell (World.block_lt_of_cell? _ _ c0)).trans c0⟩) (fun hHeld => ?_)
          replace hF := Aside0.mk (hF.out.below (below_drew (Below.refl _ _)))
          generalize w2.drew = wd at *
          refine py 0 65 (bt 22 1) rfl rfl (h := ?_)
          refine py 1 66 (bt 22 3) rfl rfl (h := ?_)
          refine py 2 67 (bt 22 7) rfl rfl (h := ?_)
          refine py 3 68 (bt 22 15) rfl rfl (h := ?_)
          refine py 4 69 (bt 22 31) rfl rfl (h := ?_)
          refine py 5 70 (bt 22 63) rfl rfl (h := ?_)
          refine py 6 71 (bt 22 127) rfl rfl (h := ?_)
          refine ty 7 72 (bt 22 255) rfl rfl hHeld (h := ?_)
          refine py 8 73 (bt 22 511) rfl rfl (h := ?_)
          refine py 9 74 (bt 22 1023) rfl rfl (h := ?_)
          refine py 10 75 (bt 22 2047) rfl rfl (h := ?_)
          refine py 11 76 (bt 22 4095) rfl rfl (h := ?_)
          refine ty 12 77 (bt 22 8191) rfl rfl hHeld (h := ?_)
          refine py 13 78 (bt 22 16383) rfl rfl (h := ?_)
          refine ty 14 79 (bt 22 32767) rfl rfl hHeld (h := ?_)
          refine py 15 80 (bt 22 65535) rfl rfl (h := ?_)
          refine py 16 81 (bt 22 131071) rfl rfl (h := ?_)
          refine py 17 82 (bt 22 262143) rfl rfl (h := ?_)
          refine ty 18 83 (bt 22 524287) rfl rfl hHeld (h := ?_)
          refine py 19 84 (bt 22 1048575) rfl rfl (h := ?_)
          refine py 20 85 (bt 22 2097151) rfl rfl (h := ?_)
          refine py 21 86 (bt 22 4194303) rfl rfl (h := ?_)
          refine done_ (by kernel_rfl) ?_
          go_wp2_with fail
          go_roundg m
          case measure => omega
          case rel => exact ⟨i + 1, by first | rfl | (simp; done), by omega, hF, Aside0.mk (by have := hI2.out; rw [if_neg (Nat.succ_ne_zero i), Nat.add_sub_cancel, ← hx.out]; simpa using this)⟩
      ·obtain rfl : i = ns.length := by omega
       have d1 : decide ((ns.length : Int) < (ns.length : Int)) = false := decide_eq_false (by omega)
       have hI' := hI.out
       rw [List.drop_length] at hI'
       replace hI' := Lib.hid (show H = true from hI')
       clear hI
       go_wp2_with fail
       go_ret
       exact ⟨by rw [hr.out, hI1.out, hI'.out, decide_eq_true h8, decide_eq_true h9]; rfl, hF.out.2⟩
  ·have d9 : decide ((8 : Int) < (ns.length : Int)) = true := decide_eq_true (by omega)
   go_enter Tryz.func67, Tryz.ntmps67
   go_wp2_with fail
   go_ret
   exact ⟨by rw [hr.out, decide_eq_false h9]; simp, hF.out.2⟩
 ·have d8 : decide ((8 : Int) < (ws.length : Int)) = true := decide_eq_true (by omega)
  go_enter Tryz.func67, Tryz.ntmps67
  go_wp2_with fail
  go_ret
  exact ⟨by rw [hr.out, decide_eq_false h8]; simp, hF.out.2⟩
end Go.Proofs.YtldlkbjbfgieeaaGreatDoor.Rq
