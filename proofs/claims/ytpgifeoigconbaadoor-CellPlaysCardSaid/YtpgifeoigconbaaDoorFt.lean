/- billetlaw18.Fit, by hand: a raw grant as a message. -/
import Derived.Test.YtpgifeoigconbaaDoorCl
import Derived.Test.YtpgifeoigconbaaDoorPf
import Derived.Lib.Hide
namespace Go.Proofs.YtpgifeoigconbaaDoor.Cl
set_option linter.unusedVariables false
set_option linter.unusedSimpArgs false
open Go.RowKit Go.Proofs.YtpgifeoigconbaaDoorW.PrintWords Go.Proofs.YtpgifeoigconbaaDoorW.PrintLast Go.Proofs.YtpgifeoigconbaaDoor.Mo Go.Proofs.YtpgifeoigconbaaDoor.Q Go.Proofs.YtpgifeoigconbaaDoor.Rt
attribute [local go_sem] max2_int min2_int max_two min_two max_three min_three max_four min_four
structure S42 where
  f0 : Int
  f1 : Int
  f2 : Int
  f3 : Int
  f4 : Int
  f5 : Int
  f6 : List Int
def z42 : S42 := ⟨0, 0, 0, 0, 0, 0, []⟩
def k42 : Kd S42 := Kd.iso (Kd.pair (Kd.int .i64) (Kd.pair (Kd.int .i64) (Kd.pair (Kd.int .i64) (Kd.pair (Kd.int .i64) (Kd.pair (Kd.int .i64) (Kd.pair (Kd.int .i64) (Kd.slice 3 (Kd.int .i64)))))))) (fun x : S42 => (x.f0, x.f1, x.f2, x.f3, x.f4, x.f5, x.f6))
theorem k42_open {w : World} {x : S42} {cs : List Value} (h : k42.K w x cs) : ∃ A c, cs = [.int .i64 x.f0, .int .i64 x.f1, .int .i64 x.f2, .int .i64 x.f3, .int .i64 x.f4, .int .i64 x.f5, .slice A x.f6.length c] ∧ x.f6.length ≤ c ∧ Kd.C (Kd.int .i64) w A x.f6.length x.f6 := by
  obtain ⟨_, _, rfl, rfl, ⟨_, _, rfl, rfl, ⟨_, _, rfl, rfl, ⟨_, _, rfl, rfl, ⟨_, _, rfl, rfl, ⟨_, _, rfl, rfl, ⟨A, c, rfl, hc, hC⟩⟩⟩⟩⟩⟩⟩ := h
  exact ⟨A, c, rfl, hc, hC⟩
def rd42 (xs : List S42) (i : Nat) : S42 := xs.getD i z42
theorem at42 {w : World} {A : Option Addr} {n : Nat} {xs : List S42} (h : Kd.C k42 w A n xs) (i : Nat) (h1 : i < n) : ∃ (ad : Addr) (B : Option Addr) (c : Nat), A = some ad ∧ w.cell? (ad.add (i * 7)) = some (.int .i64 (rd42 xs i).f0) ∧ w.cell? ⟨(ad.add (i * 7)).block, (ad.add (i * 7)).off + 1, none⟩ = some (.int .i64 (rd42 xs i).f1) ∧ w.cell? ⟨(ad.add (i * 7)).block, (ad.add (i * 7)).off + 2, none⟩ = some (.int .i64 (rd42 xs i).f2) ∧ w.cell? ⟨(ad.add (i * 7)).block, (ad.add (i * 7)).off + 3, none⟩ = some (.int .i64 (rd42 xs i).f3) ∧ w.cell? ⟨(ad.add (i * 7)).block, (ad.add (i * 7)).off + 4, none⟩ = some (.int .i64 (rd42 xs i).f4) ∧ w.cell? ⟨(ad.add (i * 7)).block, (ad.add (i * 7)).off + 5, none⟩ = some (.int .i64 (rd42 xs i).f5) ∧ w.cell? ⟨(ad.add (i * 7)).block, (ad.add (i * 7)).off + 6, none⟩ = some (.slice B (rd42 xs i).f6.length c) ∧ (rd42 xs i).f6.length ≤ c ∧ Kd.C (Kd.int .i64) w B (rd42 xs i).f6.length (rd42 xs i).f6 := by
  obtain ⟨ad, c, e, _, hK, hc0⟩ := Kd.C_get h z42 (i : Int) (by omega) (by omega)
  rw [Int.toNat_natCast] at hK hc0
  have hc : ∀ j u, c[j]? = some u → w.cell? (ad.add (i * 7 + j)) = some u := hc0
  obtain ⟨B, cc, rfl, hl, hC⟩ := k42_open hK
  exact ⟨ad, B, cc, e, hc 0 _ rfl, by rw [← add_field _ _ 1 (by omega)]; exact hc 1 _ rfl, by rw [← add_field _ _ 2 (by omega)]; exact hc 2 _ rfl, by rw [← add_field _ _ 3 (by omega)]; exact hc 3 _ rfl, by rw [← add_field _ _ 4 (by omega)]; exact hc 4 _ rfl, by rw [← add_field _ _ 5 (by omega)]; exact hc 5 _ rfl, by rw [← add_field _ _ 6 (by omega)]; exact hc 6 _ rfl, hl, hC⟩
theorem pick_any (a n : Int) (w : World) (hn : n ≠ 0) : Calls Tryd.prog 20 #[.int .i64 a, .int .i64 n] w fun e w' => e = .returned (.int .i64 (pk a n)) ∧ w = w' := by
  unfold pk
  by_cases h : a < 0
  · have d1 : decide (a < 0) = true := by simp; omega
    rw [if_pos h]
    go_enter Tryd.func20, Tryd.ntmps20
    go_wp2_with fail
    go_ret
    exact ⟨rfl, rfl⟩
  · have d1 : decide (a < 0) = false := by simp; omega
    rw [if_neg h, Int.tmod_eq_emod_of_nonneg (by omega)]
    go_enter Tryd.func20, Tryd.ntmps20
    go_wp2_with fail
    go_ret
    exact ⟨rfl, rfl⟩
def kdS (a : Int) : Int := if pk a 9 = 8 then 2 else 1
def clS (a : Int) : Int := if pk a 9 = 8 then 1 else 0
set_option maxHeartbeats 2000000 in
theorem fit_any (gk gc gb ge gv gu : Int) (A : Option Addr) (c : Nat) (l : List Int) (w : World) (hr : Kd.C (Kd.int .i64) w A l.length l) (hc : l.length ≤ c) (hl : ∀ x ∈ l, I64 x) :
    Calls Tryd.prog 19 #[.agg #[.int .i64 gk, .int .i64 gc, .int .i64 gb, .int .i64 ge, .int .i64 gv, .int .i64 gu, .slice A l.length c]] w fun ee w' => ∃ B d, ee = .returned (.agg #[.int .i64 (kdS gk), .int .i64 (clS gc), .int .i64 (pk gb 3), .int .i64 (pk ge 5), .int .i64 (pk gv 7), .int .i64 (pk gu 60), .slice B (fbS l).length d]) ∧ Kd.R k35 35 w' w.heap.size (fun _ => True) (.slice B (fbS l).length d) (fbS l) ∧ Below w.heap.size w w' := by
  obtain ⟨k, hf⟩ := fit16 l hl
  have HB := below_alloc (below_alloc (Below.refl w.heap.size w) (.cells #[.int .i64 gk, .int .i64 gc, .int .i64 gb, .int .i64 ge, .int .i64 gv, .int .i64 gu, .slice A l.length c] 42)) (.cells #[.int .i64 0, .int .i64 0, .int .i64 0, .int .i64 0, .int .i64 0, .int .i64 0, .slice none 0 0] 31)
  have hr2 := Kd.C_below hr HB
  go_enter Tryd.func19, Tryd.ntmps19
  go_wp2_with fail
  revert HB hr2
  generalize hwa : ((w.alloc (.cells #[.int .i64 gk, .int .i64 gc, .int .i64 gb, .int .i64 ge, .int .i64 gv, .int .i64 gu, .slice A l.length c] 42)).alloc (.cells #[.int .i64 0, .int .i64 0, .int .i64 0, .int .i64 0, .int .i64 0, .int .i64 0, .slice none 0 0] 31)) = wa
  intro HB hr2
  have hG : wa.heap[w.heap.size]? = some (.cells #[.int .i64 gk, .int .i64 gc, .int .i64 gb, .int .i64 ge, .int .i64 gv, .int .i64 gu, .slice A l.length c] 42 (0, 0)) := by rw [← hwa]; exact blk_alloc (blk_new w _) _
  have hO : wa.heap[w.heap.size + 1]? = some (.cells #[.int .i64 0, .int .i64 0, .int .i64 0, .int .i64 0, .int .i64 0, .int .i64 0, .slice none 0 0] 31 (0, 0)) := by rw [← hwa]; have := blk_new (w.alloc (.cells #[.int .i64 gk, .int .i64 gc, .int .i64 gb, .int .i64 ge, .int .i64 gv, .int .i64 gu, .slice A l.length c] 42)) (.cells #[.int .i64 0, .int .i64 0, .int .i64 0, .int .i64 0, .int .i64 0, .int .i64 0, .slice none 0 0] 31); simpa using this
  clear hwa
  generalize hg : w.heap.size = g at *
  refine (billetlaw16_Fit.calls k 0 0 0 0 0 0 none 0 [] A c l 1 0 0 0 0 (-1000) (fbS l) wa (Kd.C_nil _ _) (Nat.le_refl _) hr2 hc hf).mono ?_; rintro ee w1 ⟨v6, rfl, hR, hb1⟩
  obtain ⟨B, d, rfl⟩ := Kd.R_slice hR
  have hG1 := blk_below hG hb1
  have hO1 := blk_below hO hb1
  have hs := hb1.size
  have hlt := blk_lt hO1
  have hlt0 := blk_lt hO
  have g0 := (blk_cell hG1 0).trans rfl
  have g1 := (blk_cell hG1 1).trans rfl
  have g2 := (blk_cell hG1 2).trans rfl
  have g3 := (blk_cell hG1 3).trans rfl
  have g4 := (blk_cell hG1 4).trans rfl
  have g5 := (blk_cell hG1 5).trans rfl
  have hgw := blk_lt hG1
  have o0 := (blk_cell hO1 0).trans rfl
  have o1 := (blk_cell hO1 1).trans rfl
  have o2 := (blk_cell hO1 2).trans rfl
  have o3 := (blk_cell hO1 3).trans rfl
  have o4 := (blk_cell hO1 4).trans rfl
  have o5 := (blk_cell hO1 5).trans rfl
  have o6 := (blk_cell hO1 6).trans rfl
  have p0 := blk_frozen hO1 0
  have p1 := blk_frozen hO1 1
  have p2 := blk_frozen hO1 2
  have p3 := blk_frozen hO1 3
  have p4 := blk_frozen hO1 4
  have p5 := blk_frozen hO1 5
  have p6 := blk_frozen hO1 6
  clear hG hO hr2 hr hf
  have hR1 : k35.R 35 w1 wa.heap.size (fun k => k ≠ g + 1) (.slice B (fbS l).length d) (fbS l) := Kd.R_mono (Kd.R_bound hR) (fun k hk => by have := hk.2.1; omega)
  have fin : ∀ (x0 x1 x2 x3 x4 x5 : Int), ∃ w2 : World, w2 = (((((((w1.setCell ⟨g + 1, 0, none⟩ (.int .i64 x0)).setCell ⟨g + 1, 1, none⟩ (.int .i64 x1)).setCell ⟨g + 1, 2, none⟩ (.int .i64 x2)).setCell ⟨g + 1, 3, none⟩ (.int .i64 x3)).setCell ⟨g + 1, 4, none⟩ (.int .i64 x4)).setCell ⟨g + 1, 5, none⟩ (.int .i64 x5)).setCell ⟨g + 1, 6, none⟩ (.slice B (fbS l).length d)) ∧ w2.heap[g + 1]? = some (.cells #[.int .i64 x0, .int .i64 x1, .int .i64 x2, .int .i64 x3, .int .i64 x4, .int .i64 x5, .slice B (fbS l).length d] 31 (0, 0)) ∧ k35.R 35 w2 g (fun _ => True) (.slice B (fbS l).length d) (fbS l) ∧ Below g w w2 := fun x0 x1 x2 x3 x4 x5 => by
    obtain ⟨hO7, hG7⟩ := put7 (.int .i64 x0) (.int .i64 x1) (.int .i64 x2) (.int .i64 x3) (.int .i64 x4) (.int .i64 x5) (.slice B (fbS l).length d) hO1
    refine ⟨_, rfl, hO7, Kd.R_mono (Kd.R_lower (Kd.R_grown hR1 hG7 (fun k hk e => hk (by injection e))) (by omega)) (fun _ _ => trivial), ?_⟩
    exact (HB.trans (hb1.mono (by omega))).grown hG7 (by omega) (fun k e => by injection e with e; omega)
  clear hO1 hb1 HB hR hR1
  generalize hk9 : pk gk 9 = k9
  generalize hc9 : pk gc 9 = c9
  have k1 : kdS gk = (if k9 = 8 then 2 else 1) := by unfold kdS; rw [hk9]
  have k2 : clS gc = (if c9 = 8 then 1 else 0) := by unfold clS; rw [hc9]
  replace hk9 := Lib.hid hk9
  replace hc9 := Lib.hid hc9
  by_cases hk : k9 = 8 <;> by_cases hc : c9 = 8
  · subst hk
    subst hc
    replace k1 := Lib.hid (k1.trans (if_pos rfl))
    replace k2 := Lib.hid (k2.trans (if_pos rfl))
    go_wp2_with (go_at_call 20; refine (pick_any _ _ _ (by decide)).mono ?_; rintro e w' ⟨rfl, rfl⟩; first | rw [hk9.out] | rw [hc9.out] | skip)
    obtain ⟨w2, e2, b2, r2, l2⟩ := fin 2 1 (pk gb 3) (pk ge 5) (pk gv 7) (pk gu 60)
    rw [← e2]
    exact bodyPost_ret (results_cell_row rfl _ _ (g + 1) 31 _ (0, 0) _ rfl (blk_alloc b2 _) Tryd.underlying31 rfl (by kernel_rfl)) rfl ⟨B, d, by rw [k1.out, k2.out], by rw [hg]; exact Kd.R_alloc r2 _, by rw [hg]; exact l2.alloc (by rw [← hg]; exact l2.size) _⟩
  · subst hk
    have hcb : (c9 == 8) = false := beq_eq_false_iff_ne.mpr hc
    replace k1 := Lib.hid (k1.trans (if_pos rfl))
    replace k2 := Lib.hid (k2.trans (if_neg hc))
    clear hc
    go_wp2_with (go_at_call 20; refine (pick_any _ _ _ (by decide)).mono ?_; rintro e w' ⟨rfl, rfl⟩; first | rw [hk9.out] | rw [hc9.out] | skip)
    obtain ⟨w2, e2, b2, r2, l2⟩ := fin 2 0 (pk gb 3) (pk ge 5) (pk gv 7) (pk gu 60)
    rw [← e2]
    exact bodyPost_ret (results_cell_row rfl _ _ (g + 1) 31 _ (0, 0) _ rfl (blk_alloc b2 _) Tryd.underlying31 rfl (by kernel_rfl)) rfl ⟨B, d, by rw [k1.out, k2.out], by rw [hg]; exact Kd.R_alloc r2 _, by rw [hg]; exact l2.alloc (by rw [← hg]; exact l2.size) _⟩
  · subst hc
    have hkb : (k9 == 8) = false := beq_eq_false_iff_ne.mpr hk
    replace k1 := Lib.hid (k1.trans (if_neg hk))
    replace k2 := Lib.hid (k2.trans (if_pos rfl))
    clear hk
    go_wp2_with (go_at_call 20; refine (pick_any _ _ _ (by decide)).mono ?_; rintro e w' ⟨rfl, rfl⟩; first | rw [hk9.out] | rw [hc9.out] | skip)
    obtain ⟨w2, e2, b2, r2, l2⟩ := fin 1 1 (pk gb 3) (pk ge 5) (pk gv 7) (pk gu 60)
    rw [← e2]
    exact bodyPost_ret (results_cell_row rfl _ _ (g + 1) 31 _ (0, 0) _ rfl (blk_alloc b2 _) Tryd.underlying31 rfl (by kernel_rfl)) rfl ⟨B, d, by rw [k1.out, k2.out], by rw [hg]; exact Kd.R_alloc r2 _, by rw [hg]; exact l2.alloc (by rw [← hg]; exact l2.size) _⟩
  · have hkb : (k9 == 8) = false := beq_eq_false_iff_ne.mpr hk
    have hcb : (c9 == 8) = false := beq_eq_false_iff_ne.mpr hc
    replace k1 := Lib.hid (k1.trans (if_neg hk))
    replace k2 := Lib.hid (k2.trans (if_neg hc))
    clear hk hc
    go_wp2_with (go_at_call 20; refine (pick_any _ _ _ (by decide)).mono ?_; rintro e w' ⟨rfl, rfl⟩; first | rw [hk9.out] | rw [hc9.out] | skip)
    obtain ⟨w2, e2, b2, r2, l2⟩ := fin 1 0 (pk gb 3) (pk ge 5) (pk gv 7) (pk gu 60)
    rw [← e2]
    exact bodyPost_ret (results_cell_row rfl _ _ (g + 1) 31 _ (0, 0) _ rfl (blk_alloc b2 _) Tryd.underlying31 rfl (by kernel_rfl)) rfl ⟨B, d, by rw [k1.out, k2.out], by rw [hg]; exact Kd.R_alloc r2 _, by rw [hg]; exact l2.alloc (by rw [← hg]; exact l2.size) _⟩
end Go.Proofs.YtpgifeoigconbaaDoor.Cl
