/- billetlaw08.Fit, of one row of numbers. -/
/- thin -/
import Derived.Test.YtldlkbjbfgieeaaGreatDoorCw
import Derived.Test.YtldlkbjbfgieeaaGreatDoorMo
import Derived.Test.YtldlkbjbfgieeaaGreatDoorQx89
import Derived.Test.YtldlkbjbfgieeaaGreatDoorQx90
import Derived.StillTailTactics
namespace Go.Proofs.YtldlkbjbfgieeaaGreatDoor.Ft
set_option linter.unusedVariables false
set_option linter.unusedSimpArgs false
open Go.RowKit Go.Proofs.YtldlkbjbfgieeaaGreatDoorW.PrintWords Go.Proofs.YtldlkbjbfgieeaaGreatDoorW.PrintLast Mo Q Ch
def pk (a n : Int) : Int := if a < 0 then Int.tmod (wrap64 (-(wrap64 (a + 1)))) n else a % n
def at_ (l : List Int) (i : Int) : Int := if i ≥ (l.length : Int) then 0 else rd l i
theorem pick_any (a n : Int) (w : World) (hn : n ≠ 0) : Calls Tryz.prog 77 #[.int .i64 a, .int .i64 n] w fun e w' => e = .returned (.int .i64 (pk a n)) ∧ w = w' := by
 unfold pk
 have b1 : (n == 0) = false := beq_eq_false_iff_ne.mpr hn
 by_cases h : a < 0
 ·have d1 : decide (a < 0) = true := by simp; omega
  rw [if_pos h]
  go_enter Tryz.func77, Tryz.ntmps77
  go_wp2_with fail
  go_ret
  exact ⟨rfl, rfl⟩
 ·have d1 : decide (a < 0) = false := by simp; omega
  rw [if_neg h]
  go_enter Tryz.func77, Tryz.ntmps77
  go_wp2_with fail
  go_ret
  exact ⟨rfl, rfl⟩
theorem at_any (A : Option Addr) (c : Nat) (l : List Int) (i : Int) (w : World) (hr : Kd.C (Kd.int .i64) w A l.length l) (h0 : 0 ≤ i) : Calls Tryz.prog 78 #[.slice A l.length c, .int .i64 i] w fun e w' => e = .returned (.int .i64 (at_ l i)) ∧ w = w' := by
 unfold at_
 by_cases h : i ≥ (l.length : Int)
 ·have d1 : decide ((l.length : Int) ≤ i) = true := decide_eq_true h
  rw [if_pos h]
  clear h
  go_enter Tryz.func78, Tryz.ntmps78
  go_wp2
  go_ret
  exact ⟨rfl, rfl⟩
 ·have d1 : decide ((l.length : Int) ≤ i) = false := decide_eq_false h
  rw [if_neg h]
  have q : i < (l.length : Int) := by omega
  clear h
  obtain ⟨ad, e, hx⟩ := Kd.at_int hr i h0 q
  cases e
  replace h0 := eq_true h0
  replace q := eq_true q
  go_enter Tryz.func78, Tryz.ntmps78
  go_wp2
  go_ret
  exact ⟨rfl, rfl⟩
def fitW (l : List Int) (T : ByteArray) : W := ⟨⟨#[119]⟩ ++ ⟨#[97]⟩, pk (at_ l 0) 9, pk (at_ l 1) 4, wrap64 (1 + pk (at_ l 2) 4), wrap64 (1 + pk (at_ l 3) 8), if pk (at_ l 4) 3 = 2 then T else ⟨#[]⟩⟩
def fitN (l : List Int) (L : ByteArray) : N := ⟨⟨#[110]⟩ ++ ⟨#[97]⟩, pk (at_ l 0) 3, pk (at_ l 1) 5, if pk (at_ l 2) 2 = 1 then L else ⟨#[]⟩, pk (at_ l 2) 6 == 5⟩
theorem puts_ {P : Program} {ops : Array Oper} {Q : Exit → Act → World → Prop} {oi : Oper} {a : Act} {w w1 : World} {K : Act → World → Prop} {v : Value} (N : Option Tmp) (hw : Region.wanted oi (yielded ops a.tmps) = true) (hN : oi.dst = N) (hrun : (execOp a.eval oi).run P w = .ok (.value v) w1) (h : K (a.put N v) w1) : if Region.wanted oi (yielded ops a.tmps) = true then Oper.wp P oi a w K Q else K (a.put N undef) w := by
 rw [if_pos hw]
 unfold Oper.wp
 rw [hrun]
 show K (a.put oi.dst v) w1
 rw [hN]
 exact h
abbrev Vnil : Value := .slice none 0 0
abbrev rawC (pw pn : Nat) : Obj := .cells #[.slice (some ⟨pw, 0, none⟩) 1 1, .slice (some ⟨pn, 0, none⟩) 1 1] 71
abbrev prZ : Obj := .cells #[.slice none 0 0, .slice none 0 0] 67
abbrev nmC : Obj := .cells #[.string ⟨#[97]⟩, .string ⟨#[98]⟩, .string ⟨#[99]⟩, .string ⟨#[100]⟩, .string ⟨#[101]⟩, .string ⟨#[102]⟩, .string ⟨#[103]⟩] 9
abbrev prC (V U : Value) : Obj := .cells #[V, U] 67 (0, 0)
abbrev wkC (l : List Int) : Obj := .cells #[.string (⟨#[119]⟩ ++ ⟨#[97]⟩), .int .i64 (pk (at_ l 0) 9), .int .i64 (pk (at_ l 1) 4), .int .i64 (wrap64 (1 + pk (at_ l 2) 4)), .int .i64 (wrap64 (1 + pk (at_ l 3) 8)), .string ⟨#[]⟩] 32
abbrev ndC (l : List Int) : Obj := .cells #[.string (⟨#[110]⟩ ++ ⟨#[97]⟩), .int .i64 (pk (at_ l 0) 3), .int .i64 (pk (at_ l 1) 5), .string ⟨#[]⟩, .bool (pk (at_ l 2) 6 == 5)] 34
abbrev wkX (x : W) : Obj := .cells #[.string x.f0, .int .i64 x.f1, .int .i64 x.f2, .int .i64 x.f3, .int .i64 x.f4, .string x.f5] 32 (0, 0)
abbrev ndX (y : N) : Obj := .cells #[.string y.f0, .int .i64 y.f1, .int .i64 y.f2, .string y.f3, .bool y.f4] 34 (0, 0)
/-- Fit between its steps -/
def Fm (w w' : World) (pw pn g o z m : Nat) (V U : Value) : Prop := w'.heap[g]? = some (.cells #[.slice (some ⟨pw, 0, none⟩) 1 1, .slice (some ⟨pn, 0, none⟩) 1 1] 71 (0, 0)) ∧ w'.heap[o]? = some (prC Vnil Vnil) ∧ w'.heap[z]? = some (prC V U) ∧ w'.heap[m]? = some (.cells #[.string ⟨#[97]⟩, .string ⟨#[98]⟩, .string ⟨#[99]⟩, .string ⟨#[100]⟩, .string ⟨#[101]⟩, .string ⟨#[102]⟩, .string ⟨#[103]⟩] 9 (0, 0)) ∧ Below w.heap.size w w'
theorem Fm.below {w w' w2 : World} {pw pn g o z m : Nat} {V U : Value} (h : Fm w w' pw pn g o z m V U) (hb : Below w'.heap.size w' w2) : Fm w w2 pw pn g o z m V U := ⟨blk_below h.1 hb, blk_below h.2.1 hb, blk_below h.2.2.1 hb, blk_below h.2.2.2.1 hb, below_then h.2.2.2.2 h.2.2.2.2.size hb⟩
theorem ne_of {w' : World} {k x t u : Nat} {cs ds : Array Value} (h : w'.heap[k]? = some (.cells cs t (0, 0))) (h' : w'.heap[x]? = some (.cells ds u (0, 0))) (ht : u ≠ t) : k ≠ x := by
 rintro rfl
 rw [h] at h'
 injection h' with h'
 injection h' with _ h'
 exact ht h'.symm
theorem Fm.set {w w' : World} {pw pn g o z m x t : Nat} {V U : Value} {cs : Array Value} (h : Fm w w' pw pn g o z m V U) (hO : w'.heap[x]? = some (.cells cs t (0, 0))) (h1 : t ≠ 71) (h2 : t ≠ 67) (h3 : t ≠ 9) (hge : w.heap.size ≤ x) (j : Nat) (v : Value) : Fm w (w'.setCell ⟨x, j, none⟩ v) pw pn g o z m V U :=
 ⟨blk_far (p := ⟨x, j, none⟩) h.1 (ne_of h.1 hO h1) v, blk_far (p := ⟨x, j, none⟩) h.2.1 (ne_of h.2.1 hO h2) v, blk_far (p := ⟨x, j, none⟩) h.2.2.1 (ne_of h.2.2.1 hO h2) v, blk_far (p := ⟨x, j, none⟩) h.2.2.2.1 (ne_of h.2.2.2.1 hO h3) v, h.2.2.2.2.setCell (p := ⟨x, j, none⟩) hge v⟩
theorem Fm.row {α : Type} {d : Kd α} {e : Nat} {ok : Nat → Prop} {l : List α} {w w' w2 : World} {pw pn g o z m : Nat} {V U X : Value} (h : Fm w w' pw pn g o z m V U) (hR : d.R e w' w.heap.size ok X l) (hg : w'.grownBy w2 X.ownBlock) (hb : Below w.heap.size w w2) (h1 : e ≠ 71) (h2 : e ≠ 67) (h3 : e ≠ 9) : Fm w w2 pw pn g o z m V U :=
 ⟨(hg.block _ (blk_lt h.1) (Kd.R_ne hR h.1 h1)).trans h.1, (hg.block _ (blk_lt h.2.1) (Kd.R_ne hR h.2.1 h2)).trans h.2.1, (hg.block _ (blk_lt h.2.2.1) (Kd.R_ne hR h.2.2.1 h2)).trans h.2.2.1, (hg.block _ (blk_lt h.2.2.2.1) (Kd.R_ne hR h.2.2.2.1 h3)).trans h.2.2.2.1, hb⟩
theorem Fm.put0 {w w' : World} {pw pn g o z m : Nat} {V U : Value} (h : Fm w w' pw pn g o z m V U) (n2 : g ≠ z) (n3 : o ≠ z) (n4 : m ≠ z) (q : w.heap.size ≤ z) (v : Value) : Fm w (w'.setCell ⟨z, 0, none⟩ v) pw pn g o z m v U :=
 ⟨blk_far (p := ⟨z, 0, none⟩) h.1 n2 v, blk_far (p := ⟨z, 0, none⟩) h.2.1 n3 v, blk_put h.2.2.1 0 v rfl, blk_far (p := ⟨z, 0, none⟩) h.2.2.2.1 n4 v, h.2.2.2.2.setCell (p := ⟨z, 0, none⟩) q v⟩
theorem Fm.put1 {w w' : World} {pw pn g o z m : Nat} {V U : Value} (h : Fm w w' pw pn g o z m V U) (n2 : g ≠ z) (n3 : o ≠ z) (n4 : m ≠ z) (q : w.heap.size ≤ z) (v : Value) : Fm w (w'.setCell ⟨z, 1, none⟩ v) pw pn g o z m V v :=
 ⟨blk_far (p := ⟨z, 1, none⟩) h.1 n2 v, blk_far (p := ⟨z, 1, none⟩) h.2.1 n3 v, blk_put h.2.2.1 1 v rfl, blk_far (p := ⟨z, 1, none⟩) h.2.2.2.1 n4 v, h.2.2.2.2.setCell (p := ⟨z, 1, none⟩) q v⟩
set_option maxHeartbeats 8000000 in
set_option maxRecDepth 100000 in
theorem fit_any (pw pn : Nat) (A : Option Addr) (c : Nat) (l : List Int) (T L : ByteArray) (kL : Nat) (w : World) (hW : w.cell? ⟨pw, 0, none⟩ = some (.slice A l.length c)) (hN : w.cell? ⟨pn, 0, none⟩ = some (.slice A l.length c)) (hc : l.length ≤ c) (hl : Kd.C (Kd.int .i64) w A l.length l)
 (hT : billetlaw04_Term.f (pk (at_ l 5) 256) = some T) (hL : billetlaw04_Labels.f kL [at_ l 3, at_ l 2] = some L) :
 Calls Tryz.prog 36 #[.agg #[.slice (some ⟨pw, 0, none⟩) 1 1, .slice (some ⟨pn, 0, none⟩) 1 1]] w fun e w' => ∃ V U, e = .returned (.agg #[V, U]) ∧ k32.R 32 w' w.heap.size (fun _ => True) V [fitW l T] ∧ k34.R 34 w' w.heap.size (fun _ => True) U [fitN l L] ∧ Below w.heap.size w w' := by
 have hT := Lib.hid hT
 have hL := Lib.hid hL
 have hB := below_alloc (below_alloc (below_alloc (below_alloc (Below.refl w.heap.size w) (rawC pw pn)) prZ) prZ) nmC
 have h1 := blk_alloc (blk_alloc (blk_alloc (blk_new w (rawC pw pn)) prZ) prZ) nmC
 have h2 := blk_alloc (blk_alloc (blk_new (w.alloc (rawC pw pn)) prZ) prZ) nmC
 have h3 := blk_alloc (blk_new ((w.alloc (rawC pw pn)).alloc prZ) prZ) nmC
 have h4 := blk_new (((w.alloc (rawC pw pn)).alloc prZ).alloc prZ) nmC
 obtain ⟨g, hg⟩ : ∃ g, g = w.heap.size := ⟨_, rfl⟩
 obtain ⟨o, ho⟩ : ∃ o, o = w.heap.size + 1 := ⟨_, rfl⟩
 obtain ⟨z, hz⟩ : ∃ z, z = w.heap.size + 1 + 1 := ⟨_, rfl⟩
 obtain ⟨m, hm⟩ : ∃ m, m = w.heap.size + 1 + 1 + 1 := ⟨_, rfl⟩
 have n1 : g ≠ o := by omega
 have n2 : g ≠ z := by omega
 have n3 : o ≠ z := by omega
 have n4 : m ≠ z := by omega
 have n5 : m ≠ o := by omega
 have q1 : w.heap.size ≤ o := by omega
 have q2 : w.heap.size ≤ z := by omega
 rw [← hg] at h1
 replace h2 : _ = _ := h2
 rw [show (w.alloc (rawC pw pn)).heap.size = o by simp [ho]] at h2
 rw [show ((w.alloc (rawC pw pn)).alloc prZ).heap.size = z by simp [hz]] at h3
 rw [show (((w.alloc (rawC pw pn)).alloc prZ).alloc prZ).heap.size = m by simp [hm]] at h4
 have hg' := Lib.hid hg
 have ho' := Lib.hid ho
 have hz' := Lib.hid hz
 have hm' := Lib.hid hm
 clear hg ho hz hm
 go_enter Tryz.func36, Tryz.ntmps36
 go_wp2_with fail
 try simp only [Nat.add_assoc] at hz' hm'
 rw [← hm'.out, ← hz'.out, ← ho'.out, ← hg'.out]
 revert hB; revert h1; revert h2; revert h3; revert h4
 generalize (((w.alloc (rawC pw pn)).alloc prZ).alloc prZ).alloc nmC = wa
 intro h4 h3 h2 h1 hB
 have hF := Aside0.mk (show Fm w wa pw pn g o z m Vnil Vnil from ⟨h1, h2, h3, h4, hB⟩)
 clear h1 h2 h3 h4 hB
 go_loopg [5] 1 (fun kq v5 w' => ∃ (i : Nat) (V : Value) (xs : List W), v5 = .int .i64 (i : Int) ∧ i + kq = 1 ∧ xs.length = i ∧ (i = 0 → V = Vnil) ∧ (i = 1 → xs = [fitW l T]) ∧ Aside0 (Fm w w' pw pn g o z m V Vnil) ∧ Aside0 (k32.R 32 w' w.heap.size (fun _ => True) V xs))
 case atStart => exact ⟨0, Vnil, [], rfl, rfl, rfl, (fun _ => rfl), (fun h => by cases h), hF, Aside0.mk (Kd.R_nil _ _ _ _ _)⟩
 case round =>
  clear hF
  obtain ⟨i, V, xs, rfl, hik, hxl, hx0, hx1, hF, hR⟩ := hrel
  have r0 := (blk_cell hF.out.1 0).trans rfl
  have r1 := (blk_cell hF.out.1 1).trans rfl
  rcases (show i = 0 ∨ i = 1 from by omega) with rfl | rfl
  ·obtain rfl : gk = 1 := by omega
   obtain rfl := hx0 rfl
   obtain rfl := List.length_eq_zero_iff.1 hxl
   clear hx1 hx0 hR
   have hw := (hF.out.2.2.2.2.cell (World.block_lt_of_cell? w _ hW)).trans hW
   have m0 := (blk_cell hF.out.2.2.2.1 0).trans rfl
   go_wp2_with fail
   go_cut [7] (fun s7 wx => ∃ x : Nat, s7 = .pointer (some ⟨x, 0, none⟩) ∧ w.heap.size ≤ x ∧ wx.heap[x]? = some (.cells #[.string (⟨#[119]⟩ ++ ⟨#[97]⟩), .int .i64 (pk (at_ l 0) 9), .int .i64 (pk (at_ l 1) 4), .int .i64 (wrap64 (1 + pk (at_ l 2) 4)), .int .i64 (wrap64 (1 + pk (at_ l 3) 8)), .string ⟨#[]⟩] 32 (0, 0)) ∧ Aside0 (Fm w wx pw pn g o z m Vnil Vnil))
   case first =>
    refine start_ (n := 22) (S := fun w' => w'.cell? ⟨m, 0, none⟩ = some (.string ⟨#[97]⟩)) (ds := [21]) (bt 22 0) (by kernel_rfl) rfl (by kernel_rfl) (m0) (fun hHeld => ?_)
    clear r0 r1 hw
    have hC := Kd.C_below hl (below_drew hF.out.2.2.2.2)
    replace hF := Aside0.mk (hF.out.below (below_drew (Below.refl _ _)))
    clear m0
    generalize wr.drew = wd at *
    have hCB := Kd.C_below hl (below_alloc hF.out.2.2.2.2 (.cells #[.string ⟨#[]⟩, .int .i64 0, .int .i64 0, .int .i64 0, .int .i64 0, .string ⟨#[]⟩] 32))
    have hHeldD := hHeld
    have hHeldB : (wd.alloc (.cells #[.string ⟨#[]⟩, .int .i64 0, .int .i64 0, .int .i64 0, .int .i64 0, .string ⟨#[]⟩] 32)).cell? ⟨m, 0, none⟩ = some (.string ⟨#[97]⟩) := ((below_alloc (Below.refl _ wd) (.cells #[.string ⟨#[]⟩, .int .i64 0, .int .i64 0, .int .i64 0, .int .i64 0, .string ⟨#[]⟩] 32)).cell (World.block_lt_of_cell? wd _ hHeld)).trans hHeld
    have hCD := hC
    refine py 0 28 (bt 22 1) rfl rfl (h := ?_)
    refine py 1 29 (bt 22 3) rfl rfl (h := ?_)
    refine py 2 30 (bt 22 7) rfl rfl (h := ?_)
    refine ty 3 31 (bt 22 15) rfl rfl hHeld (h := ?_)
    refine py 4 32 (bt 22 31) rfl rfl (h := ?_)
    refine py 5 33 (bt 22 63) rfl rfl (h := ?_)
    refine py 8 36 (bt 22 319) rfl rfl (h := ?_)
    refine py 11 39 (bt 22 2367) rfl rfl (h := ?_)
    refine py 15 43 (bt 22 35135) rfl rfl (h := ?_)
    refine join_ (σ := Unit) 1 (bt 22 2097151) (fun _ => [(34, .int .i64 (at_ l 0)), (35, .int .i64 (pk (at_ l 0) 9)), (37, .int .i64 (at_ l 1)), (38, .int .i64 (pk (at_ l 1) 4)), (40, .int .i64 (at_ l 2)), (41, .int .i64 (pk (at_ l 2) 4)), (42, .int .i64 (wrap64 (1 + pk (at_ l 2) 4))), (44, .int .i64 (at_ l 3)), (45, .int .i64 (pk (at_ l 3) 8)), (46, .int .i64 (wrap64 (1 + pk (at_ l 3) 8))), (47, .agg #[.string ((⟨#[119]⟩ : ByteArray) ++ (⟨#[97]⟩ : ByteArray)), .int .i64 (pk (at_ l 0) 9), .int .i64 (pk (at_ l 1) 4), .int .i64 (wrap64 (1 + pk (at_ l 2) 4)), .int .i64 (wrap64 (1 + pk (at_ l 3) 8)), .string ⟨#[]⟩]), (7, .pointer (some ⟨wd.heap.size, 0, none⟩))]) (fun _ w' => w' = wd.alloc (.cells #[.string ⟨#[]⟩, .int .i64 0, .int .i64 0, .int .i64 0, .int .i64 0, .string ⟨#[]⟩] 32)) ?_ (fun hJ => ?_)
    rotate_left
    ·refine two_ (i := 6) (j := 20) (Ni := some 34) (Nj := some 7) (bt 22 35199) (bt 22 1083711) rfl rfl rfl rfl (by kernel_rfl) (by decide) (by decide) (fun K hK => ?_) (fun K hK => ?_)
     rotate_left
     ·refine puts_ (some 7) (by rfl) rfl (v := .pointer (some ⟨wd.heap.size, 0, none⟩)) (w1 := wd.alloc (.cells #[.string ⟨#[]⟩, .int .i64 0, .int .i64 0, .int .i64 0, .int .i64 0, .string ⟨#[]⟩] 32)) (by first | (go_simp; done) | (go_simp; rfl)) ?_; refine hK.out _ _ hHeldB (fun hHeld => ?_); clear hK K; refine ny (h := ?_)
      refine oe 6 34 (bt 22 1083775) rfl rfl (fun K hK => ?_); refine goes_ Tryz.func78 (by kernel_rfl) rfl #[.slice A l.length c, .int .i64 0] (by rfl) rfl rfl (by (try simp only [List.map_toArray, List.map_cons, List.map_nil]); rfl) ?_; refine (at_any A c l 0 _ hCB (by decide)).mono ?_; rintro e w' ⟨rfl, rfl⟩; refine ⟨_, rfl, ?_⟩; refine hK.out _ _ hHeldB (fun hHeld => ?_); clear hK K; refine ny (h := ?_)
      refine oe 7 35 (bt 22 1083903) rfl rfl (fun K hK => ?_); refine goes_ Tryz.func77 (by kernel_rfl) rfl #[.int .i64 (at_ l 0), .int .i64 9] (by rfl) rfl rfl (by (try simp only [List.map_toArray, List.map_cons, List.map_nil]); rfl) ?_; refine (pick_any (at_ l 0) 9 _ (by decide)).mono ?_; rintro e w' ⟨rfl, rfl⟩; refine ⟨_, rfl, ?_⟩; refine hK.out _ _ hHeldB (fun hHeld => ?_); clear hK K; refine ny (h := ?_)
      refine oe 9 37 (bt 22 1084415) rfl rfl (fun K hK => ?_); refine goes_ Tryz.func78 (by kernel_rfl) rfl #[.slice A l.length c, .int .i64 1] (by rfl) rfl rfl (by (try simp only [List.map_toArray, List.map_cons, List.map_nil]); rfl) ?_; refine (at_any A c l 1 _ hCB (by decide)).mono ?_; rintro e w' ⟨rfl, rfl⟩; refine ⟨_, rfl, ?_⟩; refine hK.out _ _ hHeldB (fun hHeld => ?_); clear hK K; refine ny (h := ?_)
      refine oe 10 38 (bt 22 1085439) rfl rfl (fun K hK => ?_); refine goes_ Tryz.func77 (by kernel_rfl) rfl #[.int .i64 (at_ l 1), .int .i64 4] (by rfl) rfl rfl (by (try simp only [List.map_toArray, List.map_cons, List.map_nil]); rfl) ?_; refine (pick_any (at_ l 1) 4 _ (by decide)).mono ?_; rintro e w' ⟨rfl, rfl⟩; refine ⟨_, rfl, ?_⟩; refine hK.out _ _ hHeldB (fun hHeld => ?_); clear hK K; refine ny (h := ?_)
      refine oe 12 40 (bt 22 1089535) rfl rfl (fun K hK => ?_); refine goes_ Tryz.func78 (by kernel_rfl) rfl #[.slice A l.length c, .int .i64 2] (by rfl) rfl rfl (by (try simp only [List.map_toArray, List.map_cons, List.map_nil]); rfl) ?_; refine (at_any A c l 2 _ hCB (by decide)).mono ?_; rintro e w' ⟨rfl, rfl⟩; refine ⟨_, rfl, ?_⟩; refine hK.out _ _ hHeldB (fun hHeld => ?_); clear hK K; refine ny (h := ?_)
      refine oe 13 41 (bt 22 1097727) rfl rfl (fun K hK => ?_); refine goes_ Tryz.func77 (by kernel_rfl) rfl #[.int .i64 (at_ l 2), .int .i64 4] (by rfl) rfl rfl (by (try simp only [List.map_toArray, List.map_cons, List.map_nil]); rfl) ?_; refine (pick_any (at_ l 2) 4 _ (by decide)).mono ?_; rintro e w' ⟨rfl, rfl⟩; refine ⟨_, rfl, ?_⟩; refine hK.out _ _ hHeldB (fun hHeld => ?_); clear hK K; refine ny (h := ?_)
      refine py 14 42 (bt 22 1114111) rfl rfl (h := ?_)
      refine oe 16 44 (bt 22 1179647) rfl rfl (fun K hK => ?_); refine goes_ Tryz.func78 (by kernel_rfl) rfl #[.slice A l.length c, .int .i64 3] (by rfl) rfl rfl (by (try simp only [List.map_toArray, List.map_cons, List.map_nil]); rfl) ?_; refine (at_any A c l 3 _ hCB (by decide)).mono ?_; rintro e w' ⟨rfl, rfl⟩; refine ⟨_, rfl, ?_⟩; refine hK.out _ _ hHeldB (fun hHeld => ?_); clear hK K; refine ny (h := ?_)
      refine oe 17 45 (bt 22 1310719) rfl rfl (fun K hK => ?_); refine goes_ Tryz.func77 (by kernel_rfl) rfl #[.int .i64 (at_ l 3), .int .i64 8] (by rfl) rfl rfl (by (try simp only [List.map_toArray, List.map_cons, List.map_nil]); rfl) ?_; refine (pick_any (at_ l 3) 8 _ (by decide)).mono ?_; rintro e w' ⟨rfl, rfl⟩; refine ⟨_, rfl, ?_⟩; refine hK.out _ _ hHeldB (fun hHeld => ?_); clear hK K; refine ny (h := ?_)
      refine py 18 46 (bt 22 1572863) rfl rfl (h := ?_)
      refine py 19 47 (bt 22 2097151) rfl rfl (h := ?_)
      exact na (hJ () _ rfl)
     refine goes_ Tryz.func78 (by kernel_rfl) rfl #[.slice A l.length c, .int .i64 0] (by rfl) rfl rfl (by (try simp only [List.map_toArray, List.map_cons, List.map_nil]); rfl) ?_; refine (at_any A c l 0 _ hCD (by decide)).mono ?_; rintro e w' ⟨rfl, rfl⟩; refine ⟨_, rfl, ?_⟩; refine hK.out _ _ hHeldD (fun hHeld => ?_); clear hK K; refine ny (h := ?_)
     refine two_ (i := 7) (j := 20) (Ni := some 35) (Nj := some 7) (bt 22 35327) (bt 22 1083775) rfl rfl rfl rfl (by kernel_rfl) (by decide) (by decide) (fun K hK => ?_) (fun K hK => ?_)
     rotate_left
     ·refine puts_ (some 7) (by rfl) rfl (v := .pointer (some ⟨wd.heap.size, 0, none⟩)) (w1 := wd.alloc (.cells #[.string ⟨#[]⟩, .int .i64 0, .int .i64 0, .int .i64 0, .int .i64 0, .string ⟨#[]⟩] 32)) (by first | (go_simp; done) | (go_simp; rfl)) ?_; refine hK.out _ _ hHeldB (fun hHeld => ?_); clear hK K; refine ny (h := ?_)
      refine oe 7 35 (bt 22 1083903) rfl rfl (fun K hK => ?_); refine goes_ Tryz.func77 (by kernel_rfl) rfl #[.int .i64 (at_ l 0), .int .i64 9] (by rfl) rfl rfl (by (try simp only [List.map_toArray, List.map_cons, List.map_nil]); rfl) ?_; refine (pick_any (at_ l 0) 9 _ (by decide)).mono ?_; rintro e w' ⟨rfl, rfl⟩; refine ⟨_, rfl, ?_⟩; refine hK.out _ _ hHeldB (fun hHeld => ?_); clear hK K; refine ny (h := ?_)
      refine oe 9 37 (bt 22 1084415) rfl rfl (fun K hK => ?_); refine goes_ Tryz.func78 (by kernel_rfl) rfl #[.slice A l.length c, .int .i64 1] (by rfl) rfl rfl (by (try simp only [List.map_toArray, List.map_cons, List.map_nil]); rfl) ?_; refine (at_any A c l 1 _ hCB (by decide)).mono ?_; rintro e w' ⟨rfl, rfl⟩; refine ⟨_, rfl, ?_⟩; refine hK.out _ _ hHeldB (fun hHeld => ?_); clear hK K; refine ny (h := ?_)
      refine oe 10 38 (bt 22 1085439) rfl rfl (fun K hK => ?_); refine goes_ Tryz.func77 (by kernel_rfl) rfl #[.int .i64 (at_ l 1), .int .i64 4] (by rfl) rfl rfl (by (try simp only [List.map_toArray, List.map_cons, List.map_nil]); rfl) ?_; refine (pick_any (at_ l 1) 4 _ (by decide)).mono ?_; rintro e w' ⟨rfl, rfl⟩; refine ⟨_, rfl, ?_⟩; refine hK.out _ _ hHeldB (fun hHeld => ?_); clear hK K; refine ny (h := ?_)
      refine oe 12 40 (bt 22 1089535) rfl rfl (fun K hK => ?_); refine goes_ Tryz.func78 (by kernel_rfl) rfl #[.slice A l.length c, .int .i64 2] (by rfl) rfl rfl (by (try simp only [List.map_toArray, List.map_cons, List.map_nil]); rfl) ?_; refine (at_any A c l 2 _ hCB (by decide)).mono ?_; rintro e w' ⟨rfl, rfl⟩; refine ⟨_, rfl, ?_⟩; refine hK.out _ _ hHeldB (fun hHeld => ?_); clear hK K; refine ny (h := ?_)
      refine oe 13 41 (bt 22 1097727) rfl rfl (fun K hK => ?_); refine goes_ Tryz.func77 (by kernel_rfl) rfl #[.int .i64 (at_ l 2), .int .i64 4] (by rfl) rfl rfl (by (try simp only [List.map_toArray, List.map_cons, List.map_nil]); rfl) ?_; refine (pick_any (at_ l 2) 4 _ (by decide)).mono ?_; rintro e w' ⟨rfl, rfl⟩; refine ⟨_, rfl, ?_⟩; refine hK.out _ _ hHeldB (fun hHeld => ?_); clear hK K; refine ny (h := ?_)
      refine py 14 42 (bt 22 1114111) rfl rfl (h := ?_)
      refine oe 16 44 (bt 22 1179647) rfl rfl (fun K hK => ?_); refine goes_ Tryz.func78 (by kernel_rfl) rfl #[.slice A l.length c, .int .i64 3] (by rfl) rfl rfl (by (try simp only [List.map_toArray, List.map_cons, List.map_nil]); rfl) ?_; refine (at_any A c l 3 _ hCB (by decide)).mono ?_; rintro e w' ⟨rfl, rfl⟩; refine ⟨_, rfl, ?_⟩; refine hK.out _ _ hHeldB (fun hHeld => ?_); clear hK K; refine ny (h := ?_)
      refine oe 17 45 (bt 22 1310719) rfl rfl (fun K hK => ?_); refine goes_ Tryz.func77 (by kernel_rfl) rfl #[.int .i64 (at_ l 3), .int .i64 8] (by rfl) rfl rfl (by (try simp only [List.map_toArray, List.map_cons, List.map_nil]); rfl) ?_; refine (pick_any (at_ l 3) 8 _ (by decide)).mono ?_; rintro e w' ⟨rfl, rfl⟩; refine ⟨_, rfl, ?_⟩; refine hK.out _ _ hHeldB (fun hHeld => ?_); clear hK K; refine ny (h := ?_)
      refine py 18 46 (bt 22 1572863) rfl rfl (h := ?_)
      refine py 19 47 (bt 22 2097151) rfl rfl (h := ?_)
      exact na (hJ () _ rfl)
     refine goes_ Tryz.func77 (by kernel_rfl) rfl #[.int .i64 (at_ l 0), .int .i64 9] (by rfl) rfl rfl (by (try simp only [List.map_toArray, List.map_cons, List.map_nil]); rfl) ?_; refine (pick_any (at_ l 0) 9 _ (by decide)).mono ?_; rintro e w' ⟨rfl, rfl⟩; refine ⟨_, rfl, ?_⟩; refine hK.out _ _ hHeldD (fun hHeld => ?_); clear hK K; refine ny (h := ?_)
     refine two_ (i := 9) (j := 20) (Ni := some 37) (Nj := some 7) (bt 22 35839) (bt 22 1083903) rfl rfl rfl rfl (by kernel_rfl) (by decide) (by decide) (fun K hK => ?_) (fun K hK => ?_)
     rotate_left
     ·refine puts_ (some 7) (by rfl) rfl (v := .pointer (some ⟨wd.heap.size, 0, none⟩)) (w1 := wd.alloc (.cells #[.string ⟨#[]⟩, .int .i64 0, .int .i64 0, .int .i64 0, .int .i64 0, .string ⟨#[]⟩] 32)) (by first | (go_simp; done) | (go_simp; rfl)) ?_; refine hK.out _ _ hHeldB (fun hHeld => ?_); clear hK K; refine ny (h := ?_)
      refine oe 9 37 (bt 22 1084415) rfl rfl (fun K hK => ?_); refine goes_ Tryz.func78 (by kernel_rfl) rfl #[.slice A l.length c, .int .i64 1] (by rfl) rfl rfl (by (try simp only [List.map_toArray, List.map_cons, List.map_nil]); rfl) ?_; refine (at_any A c l 1 _ hCB (by decide)).mono ?_; rintro e w' ⟨rfl, rfl⟩; refine ⟨_, rfl, ?_⟩; refine hK.out _ _ hHeldB (fun hHeld => ?_); clear hK K; refine ny (h := ?_)
      refine oe 10 38 (bt 22 1085439) rfl rfl (fun K hK => ?_); refine goes_ Tryz.func77 (by kernel_rfl) rfl #[.int .i64 (at_ l 1), .int .i64 4] (by rfl) rfl rfl (by (try simp only [List.map_toArray, List.map_cons, List.map_nil]); rfl) ?_; refine (pick_any (at_ l 1) 4 _ (by decide)).mono ?_; rintro e w' ⟨rfl, rfl⟩; refine ⟨_, rfl, ?_⟩; refine hK.out _ _ hHeldB (fun hHeld => ?_); clear hK K; refine ny (h := ?_)
      refine oe 12 40 (bt 22 1089535) rfl rfl (fun K hK => ?_); refine goes_ Tryz.func78 (by kernel_rfl) rfl #[.slice A l.length c, .int .i64 2] (by rfl) rfl rfl (by (try simp only [List.map_toArray, List.map_cons, List.map_nil]); rfl) ?_; refine (at_any A c l 2 _ hCB (by decide)).mono ?_; rintro e w' ⟨rfl, rfl⟩; refine ⟨_, rfl, ?_⟩; refine hK.out _ _ hHeldB (fun hHeld => ?_); clear hK K; refine ny (h := ?_)
      refine oe 13 41 (bt 22 1097727) rfl rfl (fun K hK => ?_); refine goes_ Tryz.func77 (by kernel_rfl) rfl #[.int .i64 (at_ l 2), .int .i64 4] (by rfl) rfl rfl (by (try simp only [List.map_toArray, List.map_cons, List.map_nil]); rfl) ?_; refine (pick_any (at_ l 2) 4 _ (by decide)).mono ?_; rintro e w' ⟨rfl, rfl⟩; refine ⟨_, rfl, ?_⟩; refine hK.out _ _ hHeldB (fun hHeld => ?_); clear hK K; refine ny (h := ?_)
      refine py 14 42 (bt 22 1114111) rfl rfl (h := ?_)
      refine oe 16 44 (bt 22 1179647) rfl rfl (fun K hK => ?_); refine goes_ Tryz.func78 (by kernel_rfl) rfl #[.slice A l.length c, .int .i64 3] (by rfl) rfl rfl (by (try simp only [List.map_toArray, List.map_cons, List.map_nil]); rfl) ?_; refine (at_any A c l 3 _ hCB (by decide)).mono ?_; rintro e w' ⟨rfl, rfl⟩; refine ⟨_, rfl, ?_⟩; refine hK.out _ _ hHeldB (fun hHeld => ?_); clear hK K; refine ny (h := ?_)
      refine oe 17 45 (bt 22 1310719) rfl rfl (fun K hK => ?_); refine goes_ Tryz.func77 (by kernel_rfl) rfl #[.int .i64 (at_ l 3), .int .i64 8] (by rfl) rfl rfl (by (try simp only [List.map_toArray, List.map_cons, List.map_nil]); rfl) ?_; refine (pick_any (at_ l 3) 8 _ (by decide)).mono ?_; rintro e w' ⟨rfl, rfl⟩; refine ⟨_, rfl, ?_⟩; refine hK.out _ _ hHeldB (fun hHeld => ?_); clear hK K; refine ny (h := ?_)
      refine py 18 46 (bt 22 1572863) rfl rfl (h := ?_)
      refine py 19 47 (bt 22 2097151) rfl rfl (h := ?_)
      exact na (hJ () _ rfl)
     refine goes_ Tryz.func78 (by kernel_rfl) rfl #[.slice A l.length c, .int .i64 1] (by rfl) rfl rfl (by (try simp only [List.map_toArray, List.map_cons, List.map_nil]); rfl) ?_; refine (at_any A c l 1 _ hCD (by decide)).mono ?_; rintro e w' ⟨rfl, rfl⟩; refine ⟨_, rfl, ?_⟩; refine hK.out _ _ hHeldD (fun hHeld => ?_); clear hK K; refine ny (h := ?_)
     refine two_ (i := 10) (j := 20) (Ni := some 38) (Nj := some 7) (bt 22 36863) (bt 22 1084415) rfl rfl rfl rfl (by kernel_rfl) (by decide) (by decide) (fun K hK => ?_) (fun K hK => ?_)
     rotate_left
     ·refine puts_ (some 7) (by rfl) rfl (v := .pointer (some ⟨wd.heap.size, 0, none⟩)) (w1 := wd.alloc (.cells #[.string ⟨#[]⟩, .int .i64 0, .int .i64 0, .int .i64 0, .int .i64 0, .string ⟨#[]⟩] 32)) (by first | (go_simp; done) | (go_simp; rfl)) ?_; refine hK.out _ _ hHeldB (fun hHeld => ?_); clear hK K; refine ny (h := ?_)
      refine oe 10 38 (bt 22 1085439) rfl rfl (fun K hK => ?_); refine goes_ Tryz.func77 (by kernel_rfl) rfl #[.int .i64 (at_ l 1), .int .i64 4] (by rfl) rfl rfl (by (try simp only [List.map_toArray, List.map_cons, List.map_nil]); rfl) ?_; refine (pick_any (at_ l 1) 4 _ (by decide)).mono ?_; rintro e w' ⟨rfl, rfl⟩; refine ⟨_, rfl, ?_⟩; refine hK.out _ _ hHeldB (fun hHeld => ?_); clear hK K; refine ny (h := ?_)
      refine oe 12 40 (bt 22 1089535) rfl rfl (fun K hK => ?_); refine goes_ Tryz.func78 (by kernel_rfl) rfl #[.slice A l.length c, .int .i64 2] (by rfl) rfl rfl (by (try simp only [List.map_toArray, List.map_cons, List.map_nil]); rfl) ?_; refine (at_any A c l 2 _ hCB (by decide)).mono ?_; rintro e w' ⟨rfl, rfl⟩; refine ⟨_, rfl, ?_⟩; refine hK.out _ _ hHeldB (fun hHeld => ?_); clear hK K; refine ny (h := ?_)
      refine oe 13 41 (bt 22 1097727) rfl rfl (fun K hK => ?_); refine goes_ Tryz.func77 (by kernel_rfl) rfl #[.int .i64 (at_ l 2), .int .i64 4] (by rfl) rfl rfl (by (try simp only [List.map_toArray, List.map_cons, List.map_nil]); rfl) ?_; refine (pick_any (at_ l 2) 4 _ (by decide)).mono ?_; rintro e w' ⟨rfl, rfl⟩; refine ⟨_, rfl, ?_⟩; refine hK.out _ _ hHeldB (fun hHeld => ?_); clear hK K; refine ny (h := ?_)
      refine py 14 42 (bt 22 1114111) rfl rfl (h := ?_)
      refine oe 16 44 (bt 22 1179647) rfl rfl (fun K hK => ?_); refine goes_ Tryz.func78 (by kernel_rfl) rfl #[.slice A l.length c, .int .i64 3] (by rfl) rfl rfl (by (try simp only [List.map_toArray, List.map_cons, List.map_nil]); rfl) ?_; refine (at_any A c l 3 _ hCB (by decide)).mono ?_; rintro e w' ⟨rfl, rfl⟩; refine ⟨_, rfl, ?_⟩; refine hK.out _ _ hHeldB (fun hHeld => ?_); clear hK K; refine ny (h := ?_)
      refine oe 17 45 (bt 22 1310719) rfl rfl (fun K hK => ?_); refine goes_ Tryz.func77 (by kernel_rfl) rfl #[.int .i64 (at_ l 3), .int .i64 8] (by rfl) rfl rfl (by (try simp only [List.map_toArray, List.map_cons, List.map_nil]); rfl) ?_; refine (pick_any (at_ l 3) 8 _ (by decide)).mono ?_; rintro e w' ⟨rfl, rfl⟩; refine ⟨_, rfl, ?_⟩; refine hK.out _ _ hHeldB (fun hHeld => ?_); clear hK K; refine ny (h := ?_)
      refine py 18 46 (bt 22 1572863) rfl rfl (h := ?_)
      refine py 19 47 (bt 22 2097151) rfl rfl (h := ?_)
      exact na (hJ () _ rfl)
     refine goes_ Tryz.func77 (by kernel_rfl) rfl #[.int .i64 (at_ l 1), .int .i64 4] (by rfl) rfl rfl (by (try simp only [List.map_toArray, List.map_cons, List.map_nil]); rfl) ?_; refine (pick_any (at_ l 1) 4 _ (by decide)).mono ?_; rintro e w' ⟨rfl, rfl⟩; refine ⟨_, rfl, ?_⟩; refine hK.out _ _ hHeldD (fun hHeld => ?_); clear hK K; refine ny (h := ?_)
     refine two_ (i := 12) (j := 20) (Ni := some 40) (Nj := some 7) (bt 22 40959) (bt 22 1085439) rfl rfl rfl rfl (by kernel_rfl) (by decide) (by decide) (fun K hK => ?_) (fun K hK => ?_)
     rotate_left
     ·refine puts_ (some 7) (by rfl) rfl (v := .pointer (some ⟨wd.heap.size, 0, none⟩)) (w1 := wd.alloc (.cells #[.string ⟨#[]⟩, .int .i64 0, .int .i64 0, .int .i64 0, .int .i64 0, .string ⟨#[]⟩] 32)) (by first | (go_simp; done) | (go_simp; rfl)) ?_; refine hK.out _ _ hHeldB (fun hHeld => ?_); clear hK K; refine ny (h := ?_)
      refine oe 12 40 (bt 22 1089535) rfl rfl (fun K hK => ?_); refine goes_ Tryz.func78 (by kernel_rfl) rfl #[.slice A l.length c, .int .i64 2] (by rfl) rfl rfl (by (try simp only [List.map_toArray, List.map_cons, List.map_nil]); rfl) ?_; refine (at_any A c l 2 _ hCB (by decide)).mono ?_; rintro e w' ⟨rfl, rfl⟩; refine ⟨_, rfl, ?_⟩; refine hK.out _ _ hHeldB (fun hHeld => ?_); clear hK K; refine ny (h := ?_)
      refine oe 13 41 (bt 22 1097727) rfl rfl (fun K hK => ?_); refine goes_ Tryz.func77 (by kernel_rfl) rfl #[.int .i64 (at_ l 2), .int .i64 4] (by rfl) rfl rfl (by (try simp only [List.map_toArray, List.map_cons, List.map_nil]); rfl) ?_; refine (pick_any (at_ l 2) 4 _ (by decide)).mono ?_; rintro e w' ⟨rfl, rfl⟩; refine ⟨_, rfl, ?_⟩; refine hK.out _ _ hHeldB (fun hHeld => ?_); clear hK K; refine ny (h := ?_)
      refine py 14 42 (bt 22 1114111) rfl rfl (h := ?_)
      refine oe 16 44 (bt 22 1179647) rfl rfl (fun K hK => ?_); refine goes_ Tryz.func78 (by kernel_rfl) rfl #[.slice A l.length c, .int .i64 3] (by rfl) rfl rfl (by (try simp only [List.map_toArray, List.map_cons, List.map_nil]); rfl) ?_; refine (at_any A c l 3 _ hCB (by decide)).mono ?_; rintro e w' ⟨rfl, rfl⟩; refine ⟨_, rfl, ?_⟩; refine hK.out _ _ hHeldB (fun hHeld => ?_); clear hK K; refine ny (h := ?_)
      refine oe 17 45 (bt 22 1310719) rfl rfl (fun K hK => ?_); refine goes_ Tryz.func77 (by kernel_rfl) rfl #[.int .i64 (at_ l 3), .int .i64 8] (by rfl) rfl rfl (by (try simp only [List.map_toArray, List.map_cons, List.map_nil]); rfl) ?_; refine (pick_any (at_ l 3) 8 _ (by decide)).mono ?_; rintro e w' ⟨rfl, rfl⟩; refine ⟨_, rfl, ?_⟩; refine hK.out _ _ hHeldB (fun hHeld => ?_); clear hK K; refine ny (h := ?_)
      refine py 18 46 (bt 22 1572863) rfl rfl (h := ?_)
      refine py 19 47 (bt 22 2097151) rfl rfl (h := ?_)
      exact na (hJ () _ rfl)
     refine goes_ Tryz.func78 (by kernel_rfl) rfl #[.slice A l.length c, .int .i64 2] (by rfl) rfl rfl (by (try simp only [List.map_toArray, List.map_cons, List.map_nil]); rfl) ?_; refine (at_any A c l 2 _ hCD (by decide)).mono ?_; rintro e w' ⟨rfl, rfl⟩; refine ⟨_, rfl, ?_⟩; refine hK.out _ _ hHeldD (fun hHeld => ?_); clear hK K; refine ny (h := ?_)
     refine two_ (i := 13) (j := 20) (Ni := some 41) (Nj := some 7) (bt 22 49151) (bt 22 1089535) rfl rfl rfl rfl (by kernel_rfl) (by decide) (by decide) (fun K hK => ?_) (fun K hK => ?_)
     rotate_left
     ·refine puts_ (some 7) (by rfl) rfl (v := .pointer (some ⟨wd.heap.size, 0, none⟩)) (w1 := wd.alloc (.cells #[.string ⟨#[]⟩, .int .i64 0, .int .i64 0, .int .i64 0, .int .i64 0, .string ⟨#[]⟩] 32)) (by first | (go_simp; done) | (go_simp; rfl)) ?_; refine hK.out _ _ hHeldB (fun hHeld => ?_); clear hK K; refine ny (h := ?_)
      refine oe 13 41 (bt 22 1097727) rfl rfl (fun K hK => ?_); refine goes_ Tryz.func77 (by kernel_rfl) rfl #[.int .i64 (at_ l 2), .int .i64 4] (by rfl) rfl rfl (by (try simp only [List.map_toArray, List.map_cons, List.map_nil]); rfl) ?_; refine (pick_any (at_ l 2) 4 _ (by decide)).mono ?_; rintro e w' ⟨rfl, rfl⟩; refine ⟨_, rfl, ?_⟩; refine hK.out _ _ hHeldB (fun hHeld => ?_); clear hK K; refine ny (h := ?_)
      refine py 14 42 (bt 22 1114111) rfl rfl (h := ?_)
      refine oe 16 44 (bt 22 1179647) rfl rfl (fun K hK => ?_); refine goes_ Tryz.func78 (by kernel_rfl) rfl #[.slice A l.length c, .int .i64 3] (by rfl) rfl rfl (by (try simp only [List.map_toArray, List.map_cons, List.map_nil]); rfl) ?_; refine (at_any A c l 3 _ hCB (by decide)).mono ?_; rintro e w' ⟨rfl, rfl⟩; refine ⟨_, rfl, ?_⟩; refine hK.out _ _ hHeldB (fun hHeld => ?_); clear hK K; refine ny (h := ?_)
      refine oe 17 45 (bt 22 1310719) rfl rfl (fun K hK => ?_); refine goes_ Tryz.func77 (by kernel_rfl) rfl #[.int .i64 (at_ l 3), .int .i64 8] (by rfl) rfl rfl (by (try simp only [List.map_toArray, List.map_cons, List.map_nil]); rfl) ?_; refine (pick_any (at_ l 3) 8 _ (by decide)).mono ?_; rintro e w' ⟨rfl, rfl⟩; refine ⟨_, rfl, ?_⟩; refine hK.out _ _ hHeldB (fun hHeld => ?_); clear hK K; refine ny (h := ?_)
      refine py 18 46 (bt 22 1572863) rfl rfl (h := ?_)
      refine py 19 47 (bt 22 2097151) rfl rfl (h := ?_)
      exact na (hJ () _ rfl)
     refine goes_ Tryz.func77 (by kernel_rfl) rfl #[.int .i64 (at_ l 2), .int .i64 4] (by rfl) rfl rfl (by (try simp only [List.map_toArray, List.map_cons, List.map_nil]); rfl) ?_; refine (pick_any (at_ l 2) 4 _ (by decide)).mono ?_; rintro e w' ⟨rfl, rfl⟩; refine ⟨_, rfl, ?_⟩; refine hK.out _ _ hHeldD (fun hHeld => ?_); clear hK K; refine ny (h := ?_)
     refine py 14 42 (bt 22 65535) rfl rfl (h := ?_)
     refine two_ (i := 16) (j := 20) (Ni := some 44) (Nj := some 7) (bt 22 131071) (bt 22 1114111) rfl rfl rfl rfl (by kernel_rfl) (by decide) (by decide) (fun K hK => ?_) (fun K hK => ?_)
     rotate_left
     ·refine puts_ (some 7) (by rfl) rfl (v := .pointer (some ⟨wd.heap.size, 0, none⟩)) (w1 := wd.alloc (.cells #[.string ⟨#[]⟩, .int .i64 0, .int .i64 0, .int .i64 0, .int .i64 0, .string ⟨#[]⟩] 32)) (by first | (go_simp; done) | (go_simp; rfl)) ?_; refine hK.out _ _ hHeldB (fun hHeld => ?_); clear hK K; refine ny (h := ?_)
      refine oe 16 44 (bt 22 1179647) rfl rfl (fun K hK => ?_); refine goes_ Tryz.func78 (by kernel_rfl) rfl #[.slice A l.length c, .int .i64 3] (by rfl) rfl rfl (by (try simp only [List.map_toArray, List.map_cons, List.map_nil]); rfl) ?_; refine (at_any A c l 3 _ hCB (by decide)).mono ?_; rintro e w' ⟨rfl, rfl⟩; refine ⟨_, rfl, ?_⟩; refine hK.out _ _ hHeldB (fun hHeld => ?_); clear hK K; refine ny (h := ?_)
      refine oe 17 45 (bt 22 1310719) rfl rfl (fun K hK => ?_); refine goes_ Tryz.func77 (by kernel_rfl) rfl #[.int .i64 (at_ l 3), .int .i64 8] (by rfl) rfl rfl (by (try simp only [List.map_toArray, List.map_cons, List.map_nil]); rfl) ?_; refine (pick_any (at_ l 3) 8 _ (by decide)).mono ?_; rintro e w' ⟨rfl, rfl⟩; refine ⟨_, rfl, ?_⟩; refine hK.out _ _ hHeldB (fun hHeld => ?_); clear hK K; refine ny (h := ?_)
      refine py 18 46 (bt 22 1572863) rfl rfl (h := ?_)
      refine py 19 47 (bt 22 2097151) rfl rfl (h := ?_)
      exact na (hJ () _ rfl)
     refine goes_ Tryz.func78 (by kernel_rfl) rfl #[.slice A l.length c, .int .i64 3] (by rfl) rfl rfl (by (try simp only [List.map_toArray, List.map_cons, List.map_nil]); rfl) ?_; refine (at_any A c l 3 _ hCD (by decide)).mono ?_; rintro e w' ⟨rfl, rfl⟩; refine ⟨_, rfl, ?_⟩; refine hK.out _ _ hHeldD (fun hHeld => ?_); clear hK K; refine ny (h := ?_)
     refine two_ (i := 17) (j := 20) (Ni := some 45) (Nj := some 7) (bt 22 262143) (bt 22 1179647) rfl rfl rfl rfl (by kernel_rfl) (by decide) (by decide) (fun K hK => ?_) (fun K hK => ?_)
     rotate_left
     ·refine puts_ (some 7) (by rfl) rfl (v := .pointer (some ⟨wd.heap.size, 0, none⟩)) (w1 := wd.alloc (.cells #[.string ⟨#[]⟩, .int .i64 0, .int .i64 0, .int .i64 0, .int .i64 0, .string ⟨#[]⟩] 32)) (by first | (go_simp; done) | (go_simp; rfl)) ?_; refine hK.out _ _ hHeldB (fun hHeld => ?_); clear hK K; refine ny (h := ?_)
      refine oe 17 45 (bt 22 1310719) rfl rfl (fun K hK => ?_); refine goes_ Tryz.func77 (by kernel_rfl) rfl #[.int .i64 (at_ l 3), .int .i64 8] (by rfl) rfl rfl (by (try simp only [List.map_toArray, List.map_cons, List.map_nil]); rfl) ?_; refine (pick_any (at_ l 3) 8 _ (by decide)).mono ?_; rintro e w' ⟨rfl, rfl⟩; refine ⟨_, rfl, ?_⟩; refine hK.out _ _ hHeldB (fun hHeld => ?_); clear hK K; refine ny (h := ?_)
      refine py 18 46 (bt 22 1572863) rfl rfl (h := ?_)
      refine py 19 47 (bt 22 2097151) rfl rfl (h := ?_)
      exact na (hJ () _ rfl)
     refine goes_ Tryz.func77 (by kernel_rfl) rfl #[.int .i64 (at_ l 3), .int .i64 8] (by rfl) rfl rfl (by (try simp only [List.map_toArray, List.map_cons, List.map_nil]); rfl) ?_; refine (pick_any (at_ l 3) 8 _ (by decide)).mono ?_; rintro e w' ⟨rfl, rfl⟩; refine ⟨_, rfl, ?_⟩; refine hK.out _ _ hHeldD (fun hHeld => ?_); clear hK K; refine ny (h := ?_)
     refine py 18 46 (bt 22 524287) rfl rfl (h := ?_)
     refine py 19 47 (bt 22 1048575) rfl rfl (h := ?_)
     refine oe 20 7 (bt 22 2097151) rfl rfl (fun K hK => ?_); refine puts_ (some 7) (by rfl) rfl (v := .pointer (some ⟨wd.heap.size, 0, none⟩)) (w1 := wd.alloc (.cells #[.string ⟨#[]⟩, .int .i64 0, .int .i64 0, .int .i64 0, .int .i64 0, .string ⟨#[]⟩] 32)) (by first | (go_simp; done) | (go_simp; rfl)) ?_; refine hK.out _ _ hHeldB (fun hHeld => ?_); clear hK K; refine ny (h := ?_)
     exact na (hJ () _ rfl)
    rintro _ w' rfl
    refine na ?_
    refine last_ (i := 21) (N := none) (bt 22 4194303) rfl rfl (by kernel_rfl) (by decide) (fun K hK => ?_)
    have hz := blk_new wd (.cells #[.string ⟨#[]⟩, .int .i64 0, .int .i64 0, .int .i64 0, .int .i64 0, .string ⟨#[]⟩] 32)
    have z0 := (blk_cell hz 0).trans rfl
    have y0 := blk_frozen hz 0
    have z1 := (blk_cell hz 1).trans rfl
    have y1 := blk_frozen hz 1
    have z2 := (blk_cell hz 2).trans rfl
    have y2 := blk_frozen hz 2
    have z3 := (blk_cell hz 3).trans rfl
    have y3 := blk_frozen hz 3
    have z4 := (blk_cell hz 4).trans rfl
    have y4 := blk_frozen hz 4
    have z5 := (blk_cell hz 5).trans rfl
    have y5 := blk_frozen hz 5
    refine sk ?_
    refine hK.out _ _ ?_
    clear hK K
    refine done_ (by kernel_rfl) ?_
    go_wp2_with fail
    go_meet
    exact ⟨_, rfl, hF.out.2.2.2.2.size, blk_new wd (wkC l), Aside0.mk (hF.out.below (below_alloc (Below.refl _ _) (wkC l)))⟩
   case rest =>
    clear m0 r0 r1 hw hF
    obtain ⟨x, rfl, hge, hO, hF⟩ := hcut
    have hC := Kd.C_below hl hF.out.2.2.2.2
    go_upto_if 51 with (first | (go_at_call 78; refine (at_any A c l 4 _ hC (by decide)).mono ?_; rintro e w3 ⟨rfl, rfl⟩) | (go_at_call 77; refine (pick_any (at_ l 4) 3 _ (by decide)).mono ?_; rintro e w4 ⟨rfl, rfl⟩))
    go_cut [7] (fun s7 wx => s7 = .pointer (some ⟨x, 0, none⟩) ∧ wx.heap[x]? = some (wkX (fitW l T)) ∧ Aside0 (Fm w wx pw pn g o z m Vnil Vnil))
    case first =>
     by_cases h5 : pk (at_ l 4) 3 = 2
     ·have b5 : (pk (at_ l 4) 3 == 2) = true := beq_iff_eq.mpr h5
      go_wp2_with (first | (go_at_call 78; refine (at_any A c l 5 _ hC (by decide)).mono ?_; rintro e w3 ⟨rfl, rfl⟩) | (go_at_call 77; refine (pick_any (at_ l 5) 256 _ (by decide)).mono ?_; rintro e w4 ⟨rfl, rfl⟩) | (go_at_call 79; refine (billetlaw04_Term.calls _ T _ hT.out).mono ?_; rintro e w5 ⟨rfl, hb⟩; have hO5 := blk_below hO hb; have hc5 := (blk_cell hO5 5).trans rfl; have hf5 := blk_frozen hO5 5; have hF5 := Aside0.mk (hF.out.below hb)))
      go_meet
      exact ⟨rfl, (blk_put hO5 5 (.string T) rfl).trans (by unfold fitW; rw [if_pos h5]; rfl), Aside0.mk (hF5.out.set hO5 (by decide) (by decide) (by decide) hge 5 _)⟩
     ·have b5 : (pk (at_ l 4) 3 == 2) = false := beq_eq_false_iff_ne.mpr h5
      go_wp2_with fail
      go_meet
      exact ⟨rfl, hO.trans (by unfold fitW; rw [if_neg h5]), hF⟩
    case rest =>
     clear hO hF
     obtain ⟨rfl, hO, hF⟩ := hcut
     have x0 := (blk_cell hO 0).trans rfl
     have x1 := (blk_cell hO 1).trans rfl
     have x2 := (blk_cell hO 2).trans rfl
     have x3 := (blk_cell hO 3).trans rfl
     have x4 := (blk_cell hO 4).trans rfl
     have x5 := (blk_cell hO 5).trans rfl
     obtain ⟨V, hV⟩ : ∃ V : Value, V = Vnil := ⟨_, rfl⟩
     rw [← hV] at hF
     have hV' := Aside0.mk hV
     clear hV
     have z0 := (blk_cell hF.out.2.2.1 0).trans rfl
     generalize fitW l T = X at *
     have hFa := hF
     have hRa : Aside0 (k32.R 32 wc w.heap.size (fun _ => True) V []) := Aside0.mk (by rw [hV'.out]; exact Kd.R_nil _ _ _ _ _)
     go_wp2_with (first | ((with_reducible refine gate_builtin (b := .append) (xs := #[.tmp 58, .tmp 60]) rfl ?_); at_builtin; refine Kd.R_append k32 (w0 := w) w.heap.size rfl (.tmp 58) (.tmp 60) 24 32 (.agg #[(.string ⟨#[]⟩), (.int .i64 0), (.int .i64 0), (.int .i64 0), (.int .i64 0), (.string ⟨#[]⟩)]) 64 rfl Tryz.underlying24 info32 rfl (by decide) (by omega) V [] X [.string X.f0, .int .i64 X.f1, .int .i64 X.f2, .int .i64 X.f3, .int .i64 X.f4, .string X.f5] (fun _ => True) (fun _ => False) rfl rfl ?aP (fun _ hk => hk.elim) ?aF ?aO ?aB ?aS ?aL ?_; (case aP => exact k32_mkM _ _ _ X); (case aF => exact fun _ _ => trivial); (case aO => exact hRa.out); (case aB => exact hFa.out.2.2.2.2); (case aS => exact hFa.out.2.2.2.2.size); (case aL => exact by decide); intro v1 w1 ho hb hg hat; obtain ⟨A1, c1, rfl⟩ := Kd.R_slice ho; have hF1 := Aside0.mk (hFa.out.row hRa.out hg hb (by decide) (by decide) (by decide)); have ho1 := Aside0.mk ho; have zf1 := blk_frozen hF1.out.2.2.1 0; have zc1 := (blk_cell hF1.out.2.2.1 0).trans rfl))
     go_roundg 0
     case measure => omega
     case rel => exact ⟨1, _, [X], rfl, rfl, rfl, (fun h => by cases h), (fun _ => rfl), Aside0.mk (by have := hF1.out.put0 n2 n3 n4 q2 (.slice A1 ([] ++ [X]).length c1); rw [hV'.out] at this; exact this), Aside0.mk (Kd.R_set ho1.out hF1.out.2.2.1 (by decide) 0 _)⟩
  ·obtain rfl : gk = 0 := by omega
   obtain rfl := hx1 rfl
   clear hx0 hx1 hxl
   go_wp2_with fail
   clear r0 r1
   go_loopg [8] 1 (fun kq v8 w' => ∃ (i : Nat) (U : Value) (ys : List N), v8 = .int .i64 (i : Int) ∧ i + kq = 1 ∧ ys.length = i ∧ (i = 0 → U = Vnil) ∧ (i = 1 → ys = [fitN l L]) ∧ Aside0 (Fm w w' pw pn g o z m V U) ∧ Aside0 (k32.R 32 w' w.heap.size (fun _ => True) V [fitW l T]) ∧ Aside0 (k34.R 34 w' w.heap.size (fun _ => True) U ys))
   case atStart => exact ⟨0, Vnil, [], rfl, rfl, rfl, (fun _ => rfl), (fun h => by cases h), hF, hR, Aside0.mk (Kd.R_nil _ _ _ _ _)⟩
   case round =>
    clear hF hR
    obtain ⟨i, U, ys, rfl, hik, hxl, hx0, hx1, hF, hR, hR2⟩ := hrel
    have r0 := (blk_cell hF.out.1 0).trans rfl
    have r1 := (blk_cell hF.out.1 1).trans rfl
    rcases (show i = 0 ∨ i = 1 from by omega) with rfl | rfl
    ·obtain rfl : gk = 1 := by omega
     obtain rfl := hx0 rfl
     obtain rfl := List.length_eq_zero_iff.1 hxl
     clear hx1 hx0 hR2
     have hw := (hF.out.2.2.2.2.cell (World.block_lt_of_cell? w _ hN)).trans hN
     have m0 := (blk_cell hF.out.2.2.2.1 0).trans rfl
     go_wp2_with fail
     go_cut [10] (fun s10 wx => ∃ x : Nat, s10 = .pointer (some ⟨x, 0, none⟩) ∧ w.heap.size ≤ x ∧ wx.heap[x]? = some (.cells #[.string (⟨#[110]⟩ ++ ⟨#[97]⟩), .int .i64 (pk (at_ l 0) 3), .int .i64 (pk (at_ l 1) 5), .string ⟨#[]⟩, .bool (pk (at_ l 2) 6 == 5)] 34 (0, 0)) ∧ Aside0 (Fm w wx pw pn g o z m V Vnil) ∧ Aside0 (k32.R 32 wx w.heap.size (fun _ => True) V [fitW l T]))
     case first =>
      refine start_ (n := 18) (S := fun w' => w'.cell? ⟨m, 0, none⟩ = some (.string ⟨#[97]⟩)) (ds := [17]) (bt 18 0) (by kernel_rfl) rfl (by kernel_rfl) (m0) (fun hHeld => ?_)
      clear r0 r1 hw
      have hC := Kd.C_below hl (below_drew hF.out.2.2.2.2)
      replace hF := Aside0.mk (hF.out.below (below_drew (Below.refl _ _)))
      replace hR := Aside0.mk (Kd.R_drew hR.out)
      clear m0
      generalize wr.drew = wd at *
      have hCB := Kd.C_below hl (below_alloc hF.out.2.2.2.2 (.cells #[.string ⟨#[]⟩, .int .i64 0, .int .i64 0, .string ⟨#[]⟩, .bool false] 34))
      have hHeldD := hHeld
      have hHeldB : (wd.alloc (.cells #[.string ⟨#[]⟩, .int .i64 0, .int .i64 0, .string ⟨#[]⟩, .bool false] 34)).cell? ⟨m, 0, none⟩ = some (.string ⟨#[97]⟩) := ((below_alloc (Below.refl _ wd) (.cells #[.string ⟨#[]⟩, .int .i64 0, .int .i64 0, .string ⟨#[]⟩, .bool false] 34)).cell (World.block_lt_of_cell? wd _ hHeld)).trans hHeld
      have hCD := hC
      refine py 0 79 (bt 18 1) rfl rfl (h := ?_)
      refine py 1 80 (bt 18 3) rfl rfl (h := ?_)
      refine py 2 81 (bt 18 7) rfl rfl (h := ?_)
      refine ty 3 82 (bt 18 15) rfl rfl hHeld (h := ?_)
      refine py 4 83 (bt 18 31) rfl rfl (h := ?_)
      refine py 5 84 (bt 18 63) rfl rfl (h := ?_)
      refine py 8 87 (bt 18 319) rfl rfl (h := ?_)
      refine py 11 90 (bt 18 2367) rfl rfl (h := ?_)
      refine join_ (σ := Unit) 1 (bt 18 131071) (fun _ => [(85, .int .i64 (at_ l 0)), (86, .int .i64 (pk (at_ l 0) 3)), (88, .int .i64 (at_ l 1)), (89, .int .i64 (pk (at_ l 1) 5)), (91, .int .i64 (at_ l 2)), (92, .int .i64 (pk (at_ l 2) 6)), (93, .bool (pk (at_ l 2) 6 == 5)), (94, .agg #[.string ((⟨#[110]⟩ : ByteArray) ++ (⟨#[97]⟩ : ByteArray)), .int .i64 (pk (at_ l 0) 3), .int .i64 (pk (at_ l 1) 5), .string ⟨#[]⟩, .bool (pk (at_ l 2) 6 == 5)]), (10, .pointer (some ⟨wd.heap.size, 0, none⟩))]) (fun _ w' => w' = wd.alloc (.cells #[.string ⟨#[]⟩, .int .i64 0, .int .i64 0, .string ⟨#[]⟩, .bool false] 34)) ?_ (fun hJ => ?_)
      rotate_left
      ·refine two_ (i := 6) (j := 16) (Ni := some 85) (Nj := some 10) (bt 18 2431) (bt 18 67903) rfl rfl rfl rfl (by kernel_rfl) (by decide) (by decide) (fun K hK => ?_) (fun K hK => ?_)
       rotate_left
       ·refine puts_ (some 10) (by rfl) rfl (v := .pointer (some ⟨wd.heap.size, 0, none⟩)) (w1 := wd.alloc (.cells #[.string ⟨#[]⟩, .int .i64 0, .int .i64 0, .string ⟨#[]⟩, .bool false] 34)) (by first | (go_simp; done) | (go_simp; rfl)) ?_; refine hK.out _ _ hHeldB (fun hHeld => ?_); clear hK K; refine ny (h := ?_)
        refine oe 6 85 (bt 18 67967) rfl rfl (fun K hK => ?_); refine goes_ Tryz.func78 (by kernel_rfl) rfl #[.slice A l.length c, .int .i64 0] (by rfl) rfl rfl (by (try simp only [List.map_toArray, List.map_cons, List.map_nil]); rfl) ?_; refine (at_any A c l 0 _ hCB (by decide)).mono ?_; rintro e w' ⟨rfl, rfl⟩; refine ⟨_, rfl, ?_⟩; refine hK.out _ _ hHeldB (fun hHeld => ?_); clear hK K; refine ny (h := ?_)
        refine oe 7 86 (bt 18 68095) rfl rfl (fun K hK => ?_); refine goes_ Tryz.func77 (by kernel_rfl) rfl #[.int .i64 (at_ l 0), .int .i64 3] (by rfl) rfl rfl (by (try simp only [List.map_toArray, List.map_cons, List.map_nil]); rfl) ?_; refine (pick_any (at_ l 0) 3 _ (by decide)).mono ?_; rintro e w' ⟨rfl, rfl⟩; refine ⟨_, rfl, ?_⟩; refine hK.out _ _ hHeldB (fun hHeld => ?_); clear hK K; refine ny (h := ?_)
        refine oe 9 88 (bt 18 68607) rfl rfl (fun K hK => ?_); refine goes_ Tryz.func78 (by kernel_rfl) rfl #[.slice A l.length c, .int .i64 1] (by rfl) rfl rfl (by (try simp only [List.map_toArray, List.map_cons, List.map_nil]); rfl) ?_; refine (at_any A c l 1 _ hCB (by decide)).mono ?_; rintro e w' ⟨rfl, rfl⟩; refine ⟨_, rfl, ?_⟩; refine hK.out _ _ hHeldB (fun hHeld => ?_); clear hK K; refine ny (h := ?_)
        refine oe 10 89 (bt 18 69631) rfl rfl (fun K hK => ?_); refine goes_ Tryz.func77 (by kernel_rfl) rfl #[.int .i64 (at_ l 1), .int .i64 5] (by rfl) rfl rfl (by (try simp only [List.map_toArray, List.map_cons, List.map_nil]); rfl) ?_; refine (pick_any (at_ l 1) 5 _ (by decide)).mono ?_; rintro e w' ⟨rfl, rfl⟩; refine ⟨_, rfl, ?_⟩; refine hK.out _ _ hHeldB (fun hHeld => ?_); clear hK K; refine ny (h := ?_)
        refine oe 12 91 (bt 18 73727) rfl rfl (fun K hK => ?_); refine goes_ Tryz.func78 (by kernel_rfl) rfl #[.slice A l.length c, .int .i64 2] (by rfl) rfl rfl (by (try simp only [List.map_toArray, List.map_cons, List.map_nil]); rfl) ?_; refine (at_any A c l 2 _ hCB (by decide)).mono ?_; rintro e w' ⟨rfl, rfl⟩; refine ⟨_, rfl, ?_⟩; refine hK.out _ _ hHeldB (fun hHeld => ?_); clear hK K; refine ny (h := ?_)
        refine oe 13 92 (bt 18 81919) rfl rfl (fun K hK => ?_); refine goes_ Tryz.func77 (by kernel_rfl) rfl #[.int .i64 (at_ l 2), .int .i64 6] (by rfl) rfl rfl (by (try simp only [List.map_toArray, List.map_cons, List.map_nil]); rfl) ?_; refine (pick_any (at_ l 2) 6 _ (by decide)).mono ?_; rintro e w' ⟨rfl, rfl⟩; refine ⟨_, rfl, ?_⟩; refine hK.out _ _ hHeldB (fun hHeld => ?_); clear hK K; refine ny (h := ?_)
        refine py 14 93 (bt 18 98303) rfl rfl (h := ?_)
        refine py 15 94 (bt 18 131071) rfl rfl (h := ?_)
        exact na (hJ () _ rfl)
       refine goes_ Tryz.func78 (by kernel_rfl) rfl #[.slice A l.length c, .int .i64 0] (by rfl) rfl rfl (by (try simp only [List.map_toArray, List.map_cons, List.map_nil]); rfl) ?_; refine (at_any A c l 0 _ hCD (by decide)).mono ?_; rintro e w' ⟨rfl, rfl⟩; refine ⟨_, rfl, ?_⟩; refine hK.out _ _ hHeldD (fun hHeld => ?_); clear hK K; refine ny (h := ?_)
       refine two_ (i := 7) (j := 16) (Ni := some 86) (Nj := some 10) (bt 18 2559) (bt 18 67967) rfl rfl rfl rfl (by kernel_rfl) (by decide) (by decide) (fun K hK => ?_) (fun K hK => ?_)
       rotate_left
       ·refine puts_ (some 10) (by rfl) rfl (v := .pointer (some ⟨wd.heap.size, 0, none⟩)) (w1 := wd.alloc (.cells #[.string ⟨#[]⟩, .int .i64 0, .int .i64 0, .string ⟨#[]⟩, .bool false] 34)) (by first | (go_simp; done) | (go_simp; rfl)) ?_; refine hK.out _ _ hHeldB (fun hHeld => ?_); clear hK K; refine ny (h := ?_)
        refine oe 7 86 (bt 18 68095) rfl rfl (fun K hK => ?_); refine goes_ Tryz.func77 (by kernel_rfl) rfl #[.int .i64 (at_ l 0), .int .i64 3] (by rfl) rfl rfl (by (try simp only [List.map_toArray, List.map_cons, List.map_nil]); rfl) ?_; refine (pick_any (at_ l 0) 3 _ (by decide)).mono ?_; rintro e w' ⟨rfl, rfl⟩; refine ⟨_, rfl, ?_⟩; refine hK.out _ _ hHeldB (fun hHeld => ?_); clear hK K; refine ny (h := ?_)
        refine oe 9 88 (bt 18 68607) rfl rfl (fun K hK => ?_); refine goes_ Tryz.func78 (by kernel_rfl) rfl #[.slice A l.length c, .int .i64 1] (by rfl) rfl rfl (by (try simp only [List.map_toArray, List.map_cons, List.map_nil]); rfl) ?_; refine (at_any A c l 1 _ hCB (by decide)).mono ?_; rintro e w' ⟨rfl, rfl⟩; refine ⟨_, rfl, ?_⟩; refine hK.out _ _ hHeldB (fun hHeld => ?_); clear hK K; refine ny (h := ?_)
        refine oe 10 89 (bt 18 69631) rfl rfl (fun K hK => ?_); refine goes_ Tryz.func77 (by kernel_rfl) rfl #[.int .i64 (at_ l 1), .int .i64 5] (by rfl) rfl rfl (by (try simp only [List.map_toArray, List.map_cons, List.map_nil]); rfl) ?_; refine (pick_any (at_ l 1) 5 _ (by decide)).mono ?_; rintro e w' ⟨rfl, rfl⟩; refine ⟨_, rfl, ?_⟩; refine hK.out _ _ hHeldB (fun hHeld => ?_); clear hK K; refine ny (h := ?_)
        refine oe 12 91 (bt 18 73727) rfl rfl (fun K hK => ?_); refine goes_ Tryz.func78 (by kernel_rfl) rfl #[.slice A l.length c, .int .i64 2] (by rfl) rfl rfl (by (try simp only [List.map_toArray, List.map_cons, List.map_nil]); rfl) ?_; refine (at_any A c l 2 _ hCB (by decide)).mono ?_; rintro e w' ⟨rfl, rfl⟩; refine ⟨_, rfl, ?_⟩; refine hK.out _ _ hHeldB (fun hHeld => ?_); clear hK K; refine ny (h := ?_)
        refine oe 13 92 (bt 18 81919) rfl rfl (fun K hK => ?_); refine goes_ Tryz.func77 (by kernel_rfl) rfl #[.int .i64 (at_ l 2), .int .i64 6] (by rfl) rfl rfl (by (try simp only [List.map_toArray, List.map_cons, List.map_nil]); rfl) ?_; refine (pick_any (at_ l 2) 6 _ (by decide)).mono ?_; rintro e w' ⟨rfl, rfl⟩; refine ⟨_, rfl, ?_⟩; refine hK.out _ _ hHeldB (fun hHeld => ?_); clear hK K; refine ny (h := ?_)
        refine py 14 93 (bt 18 98303) rfl rfl (h := ?_)
        refine py 15 94 (bt 18 131071) rfl rfl (h := ?_)
        exact na (hJ () _ rfl)
       refine goes_ Tryz.func77 (by kernel_rfl) rfl #[.int .i64 (at_ l 0), .int .i64 3] (by rfl) rfl rfl (by (try simp only [List.map_toArray, List.map_cons, List.map_nil]); rfl) ?_; refine (pick_any (at_ l 0) 3 _ (by decide)).mono ?_; rintro e w' ⟨rfl, rfl⟩; refine ⟨_, rfl, ?_⟩; refine hK.out _ _ hHeldD (fun hHeld => ?_); clear hK K; refine ny (h := ?_)
       refine two_ (i := 9) (j := 16) (Ni := some 88) (Nj := some 10) (bt 18 3071) (bt 18 68095) rfl rfl rfl rfl (by kernel_rfl) (by decide) (by decide) (fun K hK => ?_) (fun K hK => ?_)
       rotate_left
       ·refine puts_ (some 10) (by rfl) rfl (v := .pointer (some ⟨wd.heap.size, 0, none⟩)) (w1 := wd.alloc (.cells #[.string ⟨#[]⟩, .int .i64 0, .int .i64 0, .string ⟨#[]⟩, .bool false] 34)) (by first | (go_simp; done) | (go_simp; rfl)) ?_; refine hK.out _ _ hHeldB (fun hHeld => ?_); clear hK K; refine ny (h := ?_)
        refine oe 9 88 (bt 18 68607) rfl rfl (fun K hK => ?_); refine goes_ Tryz.func78 (by kernel_rfl) rfl #[.slice A l.length c, .int .i64 1] (by rfl) rfl rfl (by (try simp only [List.map_toArray, List.map_cons, List.map_nil]); rfl) ?_; refine (at_any A c l 1 _ hCB (by decide)).mono ?_; rintro e w' ⟨rfl, rfl⟩; refine ⟨_, rfl, ?_⟩; refine hK.out _ _ hHeldB (fun hHeld => ?_); clear hK K; refine ny (h := ?_)
        refine oe 10 89 (bt 18 69631) rfl rfl (fun K hK => ?_); refine goes_ Tryz.func77 (by kernel_rfl) rfl #[.int .i64 (at_ l 1), .int .i64 5] (by rfl) rfl rfl (by (try simp only [List.map_toArray, List.map_cons, List.map_nil]); rfl) ?_; refine (pick_any (at_ l 1) 5 _ (by decide)).mono ?_; rintro e w' ⟨rfl, rfl⟩; refine ⟨_, rfl, ?_⟩; refine hK.out _ _ hHeldB (fun hHeld => ?_); clear hK K; refine ny (h := ?_)
        refine oe 12 91 (bt 18 73727) rfl rfl (fun K hK => ?_); refine goes_ Tryz.func78 (by kernel_rfl) rfl #[.slice A l.length c, .int .i64 2] (by rfl) rfl rfl (by (try simp only [List.map_toArray, List.map_cons, List.map_nil]); rfl) ?_; refine (at_any A c l 2 _ hCB (by decide)).mono ?_; rintro e w' ⟨rfl, rfl⟩; refine ⟨_, rfl, ?_⟩; refine hK.out _ _ hHeldB (fun hHeld => ?_); clear hK K; refine ny (h := ?_)
        refine oe 13 92 (bt 18 81919) rfl rfl (fun K hK => ?_); refine goes_ Tryz.func77 (by kernel_rfl) rfl #[.int .i64 (at_ l 2), .int .i64 6] (by rfl) rfl rfl (by (try simp only [List.map_toArray, List.map_cons, List.map_nil]); rfl) ?_; refine (pick_any (at_ l 2) 6 _ (by decide)).mono ?_; rintro e w' ⟨rfl, rfl⟩; refine ⟨_, rfl, ?_⟩; refine hK.out _ _ hHeldB (fun hHeld => ?_); clear hK K; refine ny (h := ?_)
        refine py 14 93 (bt 18 98303) rfl rfl (h := ?_)
        refine py 15 94 (bt 18 131071) rfl rfl (h := ?_)
        exact na (hJ () _ rfl)
       refine goes_ Tryz.func78 (by kernel_rfl) rfl #[.slice A l.length c, .int .i64 1] (by rfl) rfl rfl (by (try simp only [List.map_toArray, List.map_cons, List.map_nil]); rfl) ?_; refine (at_any A c l 1 _ hCD (by decide)).mono ?_; rintro e w' ⟨rfl, rfl⟩; refine ⟨_, rfl, ?_⟩; refine hK.out _ _ hHeldD (fun hHeld => ?_); clear hK K; refine ny (h := ?_)
       refine two_ (i := 10) (j := 16) (Ni := some 89) (Nj := some 10) (bt 18 4095) (bt 18 68607) rfl rfl rfl rfl (by kernel_rfl) (by decide) (by decide) (fun K hK => ?_) (fun K hK => ?_)
       rotate_left
       ·refine puts_ (some 10) (by rfl) rfl (v := .pointer (some ⟨wd.heap.size, 0, none⟩)) (w1 := wd.alloc (.cells #[.string ⟨#[]⟩, .int .i64 0, .int .i64 0, .string ⟨#[]⟩, .bool false] 34)) (by first | (go_simp; done) | (go_simp; rfl)) ?_; refine hK.out _ _ hHeldB (fun hHeld => ?_); clear hK K; refine ny (h := ?_)
        refine oe 10 89 (bt 18 69631) rfl rfl (fun K hK => ?_); refine goes_ Tryz.func77 (by kernel_rfl) rfl #[.int .i64 (at_ l 1), .int .i64 5] (by rfl) rfl rfl (by (try simp only [List.map_toArray, List.map_cons, List.map_nil]); rfl) ?_; refine (pick_any (at_ l 1) 5 _ (by decide)).mono ?_; rintro e w' ⟨rfl, rfl⟩; refine ⟨_, rfl, ?_⟩; refine hK.out _ _ hHeldB (fun hHeld => ?_); clear hK K; refine ny (h := ?_)
        refine oe 12 91 (bt 18 73727) rfl rfl (fun K hK => ?_); refine goes_ Tryz.func78 (by kernel_rfl) rfl #[.slice A l.length c, .int .i64 2] (by rfl) rfl rfl (by (try simp only [List.map_toArray, List.map_cons, List.map_nil]); rfl) ?_; refine (at_any A c l 2 _ hCB (by decide)).mono ?_; rintro e w' ⟨rfl, rfl⟩; refine ⟨_, rfl, ?_⟩; refine hK.out _ _ hHeldB (fun hHeld => ?_); clear hK K; refine ny (h := ?_)
        refine oe 13 92 (bt 18 81919) rfl rfl (fun K hK => ?_); refine goes_ Tryz.func77 (by kernel_rfl) rfl #[.int .i64 (at_ l 2), .int .i64 6] (by rfl) rfl rfl (by (try simp only [List.map_toArray, List.map_cons, List.map_nil]); rfl) ?_; refine (pick_any (at_ l 2) 6 _ (by decide)).mono ?_; rintro e w' ⟨rfl, rfl⟩; refine ⟨_, rfl, ?_⟩; refine hK.out _ _ hHeldB (fun hHeld => ?_); clear hK K; refine ny (h := ?_)
        refine py 14 93 (bt 18 98303) rfl rfl (h := ?_)
        refine py 15 94 (bt 18 131071) rfl rfl (h := ?_)
        exact na (hJ () _ rfl)
       refine goes_ Tryz.func77 (by kernel_rfl) rfl #[.int .i64 (at_ l 1), .int .i64 5] (by rfl) rfl rfl (by (try simp only [List.map_toArray, List.map_cons, List.map_nil]); rfl) ?_; refine (pick_any (at_ l 1) 5 _ (by decide)).mono ?_; rintro e w' ⟨rfl, rfl⟩; refine ⟨_, rfl, ?_⟩; refine hK.out _ _ hHeldD (fun hHeld => ?_); clear hK K; refine ny (h := ?_)
       refine two_ (i := 12) (j := 16) (Ni := some 91) (Nj := some 10) (bt 18 8191) (bt 18 69631) rfl rfl rfl rfl (by kernel_rfl) (by decide) (by decide) (fun K hK => ?_) (fun K hK => ?_)
       rotate_left
       ·refine puts_ (some 10) (by rfl) rfl (v := .pointer (some ⟨wd.heap.size, 0, none⟩)) (w1 := wd.alloc (.cells #[.string ⟨#[]⟩, .int .i64 0, .int .i64 0, .string ⟨#[]⟩, .bool false] 34)) (by first | (go_simp; done) | (go_simp; rfl)) ?_; refine hK.out _ _ hHeldB (fun hHeld => ?_); clear hK K; refine ny (h := ?_)
        refine oe 12 91 (bt 18 73727) rfl rfl (fun K hK => ?_); refine goes_ Tryz.func78 (by kernel_rfl) rfl #[.slice A l.length c, .int .i64 2] (by rfl) rfl rfl (by (try simp only [List.map_toArray, List.map_cons, List.map_nil]); rfl) ?_; refine (at_any A c l 2 _ hCB (by decide)).mono ?_; rintro e w' ⟨rfl, rfl⟩; refine ⟨_, rfl, ?_⟩; refine hK.out _ _ hHeldB (fun hHeld => ?_); clear hK K; refine ny (h := ?_)
        refine oe 13 92 (bt 18 81919) rfl rfl (fun K hK => ?_); refine goes_ Tryz.func77 (by kernel_rfl) rfl #[.int .i64 (at_ l 2), .int .i64 6] (by rfl) rfl rfl (by (try simp only [List.map_toArray, List.map_cons, List.map_nil]); rfl) ?_; refine (pick_any (at_ l 2) 6 _ (by decide)).mono ?_; rintro e w' ⟨rfl, rfl⟩; refine ⟨_, rfl, ?_⟩; refine hK.out _ _ hHeldB (fun hHeld => ?_); clear hK K; refine ny (h := ?_)
        refine py 14 93 (bt 18 98303) rfl rfl (h := ?_)
        refine py 15 94 (bt 18 131071) rfl rfl (h := ?_)
        exact na (hJ () _ rfl)
       refine goes_ Tryz.func78 (by kernel_rfl) rfl #[.slice A l.length c, .int .i64 2] (by rfl) rfl rfl (by (try simp only [List.map_toArray, List.map_cons, List.map_nil]); rfl) ?_; refine (at_any A c l 2 _ hCD (by decide)).mono ?_; rintro e w' ⟨rfl, rfl⟩; refine ⟨_, rfl, ?_⟩; refine hK.out _ _ hHeldD (fun hHeld => ?_); clear hK K; refine ny (h := ?_)
       refine two_ (i := 13) (j := 16) (Ni := some 92) (Nj := some 10) (bt 18 16383) (bt 18 73727) rfl rfl rfl rfl (by kernel_rfl) (by decide) (by decide) (fun K hK => ?_) (fun K hK => ?_)
       rotate_left
       ·refine puts_ (some 10) (by rfl) rfl (v := .pointer (some ⟨wd.heap.size, 0, none⟩)) (w1 := wd.alloc (.cells #[.string ⟨#[]⟩, .int .i64 0, .int .i64 0, .string ⟨#[]⟩, .bool false] 34)) (by first | (go_simp; done) | (go_simp; rfl)) ?_; refine hK.out _ _ hHeldB (fun hHeld => ?_); clear hK K; refine ny (h := ?_)
        refine oe 13 92 (bt 18 81919) rfl rfl (fun K hK => ?_); refine goes_ Tryz.func77 (by kernel_rfl) rfl #[.int .i64 (at_ l 2), .int .i64 6] (by rfl) rfl rfl (by (try simp only [List.map_toArray, List.map_cons, List.map_nil]); rfl) ?_; refine (pick_any (at_ l 2) 6 _ (by decide)).mono ?_; rintro e w' ⟨rfl, rfl⟩; refine ⟨_, rfl, ?_⟩; refine hK.out _ _ hHeldB (fun hHeld => ?_); clear hK K; refine ny (h := ?_)
        refine py 14 93 (bt 18 98303) rfl rfl (h := ?_)
        refine py 15 94 (bt 18 131071) rfl rfl (h := ?_)
        exact na (hJ () _ rfl)
       refine goes_ Tryz.func77 (by kernel_rfl) rfl #[.int .i64 (at_ l 2), .int .i64 6] (by rfl) rfl rfl (by (try simp only [List.map_toArray, List.map_cons, List.map_nil]); rfl) ?_; refine (pick_any (at_ l 2) 6 _ (by decide)).mono ?_; rintro e w' ⟨rfl, rfl⟩; refine ⟨_, rfl, ?_⟩; refine hK.out _ _ hHeldD (fun hHeld => ?_); clear hK K; refine ny (h := ?_)
       refine py 14 93 (bt 18 32767) rfl rfl (h := ?_)
       refine py 15 94 (bt 18 65535) rfl rfl (h := ?_)
       refine oe 16 10 (bt 18 131071) rfl rfl (fun K hK => ?_); refine puts_ (some 10) (by rfl) rfl (v := .pointer (some ⟨wd.heap.size, 0, none⟩)) (w1 := wd.alloc (.cells #[.string ⟨#[]⟩, .int .i64 0, .int .i64 0, .string ⟨#[]⟩, .bool false] 34)) (by first | (go_simp; done) | (go_simp; rfl)) ?_; refine hK.out _ _ hHeldB (fun hHeld => ?_); clear hK K; refine ny (h := ?_)
       exact na (hJ () _ rfl)
      rintro _ w' rfl
      refine na ?_
      refine last_ (i := 17) (N := none) (bt 18 262143) rfl rfl (by kernel_rfl) (by decide) (fun K hK => ?_)
      have hz := blk_new wd (.cells #[.string ⟨#[]⟩, .int .i64 0, .int .i64 0, .string ⟨#[]⟩, .bool false] 34)
      have z0 := (blk_cell hz 0).trans rfl
      have y0 := blk_frozen hz 0
      have z1 := (blk_cell hz 1).trans rfl
      have y1 := blk_frozen hz 1
      have z2 := (blk_cell hz 2).trans rfl
      have y2 := blk_frozen hz 2
      have z3 := (blk_cell hz 3).trans rfl
      have y3 := blk_frozen hz 3
      have z4 := (blk_cell hz 4).trans rfl
      have y4 := blk_frozen hz 4
      refine sk ?_
      refine hK.out _ _ ?_
      clear hK K
      refine done_ (by kernel_rfl) ?_
      go_wp2_with fail
      go_meet
      exact ⟨_, rfl, hF.out.2.2.2.2.size, blk_new wd (ndC l), Aside0.mk (hF.out.below (below_alloc (Below.refl _ _) (ndC l))), Aside0.mk (Kd.R_alloc hR.out (o := ndC l))⟩
     case rest =>
      clear m0 r0 r1 hw hF hR
      obtain ⟨x, rfl, hge, hO, hF, hR⟩ := hcut
      have hC := Kd.C_below hl hF.out.2.2.2.2
      go_upto_if 98 with (first | (go_at_call 78; refine (at_any A c l 2 _ hC (by decide)).mono ?_; rintro e w3 ⟨rfl, rfl⟩) | (go_at_call 77; refine (pick_any (at_ l 2) 2 _ (by decide)).mono ?_; rintro e w4 ⟨rfl, rfl⟩))
      go_cut [10] (fun s10 wx => s10 = .pointer (some ⟨x, 0, none⟩) ∧ wx.heap[x]? = some (ndX (fitN l L)) ∧ Aside0 (Fm w wx pw pn g o z m V Vnil) ∧ Aside0 (k32.R 32 wx w.heap.size (fun _ => True) V [fitW l T]))
      case first =>
       by_cases h5 : pk (at_ l 2) 2 = 1
       ·have b5 : (pk (at_ l 2) 2 == 1) = true := beq_iff_eq.mpr h5
        go_wp2_with (first | (go_at_call 78; (first | with_reducible refine (at_any A c l 3 _ hC (by decide)).mono ?_ | with_reducible refine (at_any A c l 2 _ hC (by decide)).mono ?_); rintro e w3 ⟨rfl, rfl⟩) | ((with_reducible refine gate_dst (N := 103) rfl ?_); refine Kd.R_lit (Kd.int .i64) _ 3 ?hg (N := 103) ?hd (xs := [at_ l 3, at_ l 2]) (inner := [.int .i64 (at_ l 3), .int .i64 (at_ l 2)]) (ok := fun _ => True) (okp := fun _ => True) ?hr ?hp (fun _ hk => hk) trivial (Below.refl _ _) (Nat.le_refl _) (by simp) ?_; (case hd => rfl); (case hg => rfl); (case hr => first | (go_simp; done) | (go_simp; rfl)); (case hp => exact Reps.one (show Kd.M (Kd.int .i64) _ _ _ (at_ l 3) [.int .i64 (at_ l 3)] from rfl) (Reps.one (show Kd.M (Kd.int .i64) _ _ _ (at_ l 2) [.int .i64 (at_ l 2)] from rfl) (Reps.none _ _))); intro v4 w4 ho hb hg_ hnew_; obtain ⟨A4, c4, rfl⟩ := Kd.R_slice ho; have hO4 := blk_below hO hb; have hF4 := Aside0.mk (hF.out.below hb); have hR4 := Aside0.mk (Kd.R_below hR.out hb)) | (go_at_call 80; refine (billetlaw04_Labels.calls kL A4 c4 [at_ l 3, at_ l 2] L _ (Kd.R_reads' ho).2.2 (Kd.R_reads' ho).2.1 hL.out).mono ?_; rintro e w5 ⟨rfl, hb5⟩; have hO5 := blk_below hO4 hb5; have hc5 := (blk_cell hO5 3).trans rfl; have hf5 := blk_frozen hO5 3; have hF5 := Aside0.mk (hF4.out.below hb5); have hR5 := Aside0.mk (Kd.R_below hR4.out hb5)))
        go_meet
        exact ⟨rfl, (blk_put hO5 3 (.string L) rfl).trans (by unfold fitN; rw [if_pos h5]; rfl), Aside0.mk (hF5.out.set hO5 (by decide) (by decide) (by decide) hge 3 _), Aside0.mk (Kd.R_set hR5.out hO5 (by decide) 3 _)⟩
       ·have b5 : (pk (at_ l 2) 2 == 1) = false := beq_eq_false_iff_ne.mpr h5
        go_wp2_with fail
        go_meet
        exact ⟨rfl, hO.trans (by unfold fitN; rw [if_neg h5]), hF, hR⟩
      case rest =>
       clear hO hF hR
       obtain ⟨rfl, hO, hF, hR⟩ := hcut
       have x0 := (blk_cell hO 0).trans rfl
       have x1 := (blk_cell hO 1).trans rfl
       have x2 := (blk_cell hO 2).trans rfl
       have x3 := (blk_cell hO 3).trans rfl
       have x4 := (blk_cell hO 4).trans rfl
       obtain ⟨U, hU⟩ : ∃ U : Value, U = Vnil := ⟨_, rfl⟩
       rw [← hU] at hF
       have hU' := Aside0.mk hU
       clear hU
       have z1 := (blk_cell hF.out.2.2.1 1).trans rfl
       generalize fitN l L = X at *
       have hRa : Aside0 (k34.R 34 wc w.heap.size (fun _ => True) U []) := Aside0.mk (by rw [hU'.out]; exact Kd.R_nil _ _ _ _ _)
       go_wp2_with (first | ((with_reducible refine gate_builtin (b := .append) (xs := #[.tmp 107, .tmp 109]) rfl ?_); at_builtin; refine Kd.R_append k34 (w0 := w) w.heap.size rfl (.tmp 107) (.tmp 109) 25 34 (.agg #[(.string ⟨#[]⟩), (.int .i64 0), (.int .i64 0), (.string ⟨#[]⟩), (.bool false)]) 56 rfl Tryz.underlying25 info34 rfl (by decide) (by omega) U [] X [.string X.f0, .int .i64 X.f1, .int .i64 X.f2, .string X.f3, .bool X.f4] (fun _ => True) (fun _ => False) rfl rfl ?aP (fun _ hk => hk.elim) ?aF ?aO ?aB ?aS ?aL ?_; (case aP => exact k34_mkM _ _ _ X); (case aF => exact fun _ _ => trivial); (case aO => exact hRa.out); (case aB => exact hF.out.2.2.2.2); (case aS => exact hF.out.2.2.2.2.size); (case aL => exact by decide); intro v1 w1 ho hb hg hat; obtain ⟨A1, c1, rfl⟩ := Kd.R_slice ho; have hF1 := Aside0.mk (hF.out.row hRa.out hg hb (by decide) (by decide) (by decide)); have ho1 := Aside0.mk ho; have hR1 := Aside0.mk (Kd.R_grown hR.out hg (fun k hk => by rw [hU'.out]; simp [Value.ownBlock])); have zf1 := blk_frozen hF1.out.2.2.1 1; have zc1 := (blk_cell hF1.out.2.2.1 1).trans rfl))
       go_roundg 0
       case measure => omega
       case rel => exact ⟨1, _, [X], rfl, rfl, rfl, (fun h => by cases h), (fun _ => rfl), Aside0.mk (by have := hF1.out.put1 n2 n3 n4 q2 (.slice A1 ([] ++ [X]).length c1); exact this), Aside0.mk (Kd.R_set hR1.out hF1.out.2.2.1 (by decide) 1 _), Aside0.mk (Kd.R_set ho1.out hF1.out.2.2.1 (by decide) 1 _)⟩
    ·obtain rfl : gk = 0 := by omega
     obtain rfl := hx1 rfl
     clear hx0 hx1 hxl
     obtain ⟨A1, c1, rfl⟩ := Kd.R_slice hR.out
     obtain ⟨A2, c2, rfl⟩ := Kd.R_slice hR2.out
     have z0 := (blk_cell hF.out.2.2.1 0).trans rfl
     have z1 := (blk_cell hF.out.2.2.1 1).trans rfl
     have o0 := (blk_cell hF.out.2.1 0).trans rfl
     have o1 := (blk_cell hF.out.2.1 1).trans rfl
     have f0 := blk_frozen hF.out.2.1 0
     have f1 := blk_frozen hF.out.2.1 1
     go_wp2_with fail
     have e1 := blk_put hF.out.2.1 0 (.slice A1 1 c1) (cs' := #[.slice A1 1 c1, Vnil]) rfl
     have e2 := blk_put e1 1 (.slice A2 1 c2) (cs' := #[.slice A1 1 c1, .slice A2 1 c2]) rfl
     refine bodyPost_ret (results_cell_row rfl _ _ o 67 _ (0, 0) _ rfl e2 Tryz.underlying67 rfl (by kernel_rfl)) rfl ?_
     exact ⟨_, _, rfl, Kd.R_set (Kd.R_set hR.out hF.out.2.1 (by decide) 0 _) e1 (by decide) 1 _, Kd.R_set (Kd.R_set hR2.out hF.out.2.1 (by decide) 0 _) e1 (by decide) 1 _, (hF.out.2.2.2.2.setCell (p := ⟨o, 0, none⟩) q1 _).setCell (p := ⟨o, 1, none⟩) q1 _⟩
end Go.Proofs.YtldlkbjbfgieeaaGreatDoor.Ft
