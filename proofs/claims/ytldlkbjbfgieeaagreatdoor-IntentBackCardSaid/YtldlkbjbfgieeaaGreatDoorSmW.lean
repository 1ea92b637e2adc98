/- The document's submit: one workload among the others. -/
import Derived.Test.YtldlkbjbfgieeaaGreatDoorSy
import Derived.Test.YtldlkbjbfgieeaaGreatDoorMo
import Derived.Test.YtldlkbjbfgieeaaGreatDoorFt
namespace Go.Proofs.YtldlkbjbfgieeaaGreatDoor.SmW
set_option linter.unusedVariables false
set_option linter.unusedSimpArgs false
open Go.RowKit Go.Proofs.YtldlkbjbfgieeaaGreatDoorW.PrintWords Go.Proofs.YtldlkbjbfgieeaaGreatDoorW.PrintLast Mo Q Rw Cb Rq Ch Ap Go.Proofs.YtldlkbjbfgieeaaGreatDoor.St Rx Ft
open Go.Proofs.YtldlkbjbfgieeaaGreatDoor.Ri (stV)
attribute [local go_sem high] Go.Proofs.YtldlkbjbfgieeaaGreatDoor.Sl.gtr_less Go.Proofs.YtldlkbjbfgieeaaGreatDoor.Sl.leq_less
abbrev fw (x : W) : ByteArray := x.f0
abbrev xC (x : W) : Obj := .cells #[.string x.f0, .int .i64 x.f1, .int .i64 x.f2, .int .i64 x.f3, .int .i64 x.f4, .string x.f5] 32
/-- between the rounds -/
def Sb (w w' : World) (b2 b3 b4 b6 : Nat) (e : Int) (A B : Option Addr) (n c m d : Nat) (x : W) (V : Value) (acc : List W) : Prop :=
 w'.heap[b2]? = some (.cells #[.int .i64 e, .slice A n c, .slice B m d] 27 (0, 0)) ∧ w'.heap[b3]? = some (.cells #[.string x.f0, .int .i64 x.f1, .int .i64 x.f2, .int .i64 x.f3, .int .i64 x.f4, .string x.f5] 32 (0, 0)) ∧ w'.heap[b4]? = some (.cells #[.int .i64 0, .slice none 0 0, .slice none 0 0] 27 (0, 0)) ∧ w'.heap[b6]? = some (.cells #[.int .i64 e, V, .slice B m d] 27 (0, 0)) ∧ k32.R 32 w' w.heap.size (fun k => k ≠ b3) V acc ∧ Below w.heap.size w w'
theorem Sb.below {w w' w2 : World} {b2 b3 b4 b6 : Nat} {e : Int} {A B : Option Addr} {n c m d : Nat} {x : W} {V : Value} {acc : List W} (h : Sb w w' b2 b3 b4 b6 e A B n c m d x V acc) (hb : Below w'.heap.size w' w2) : Sb w w2 b2 b3 b4 b6 e A B n c m d x V acc :=
 ⟨blk_below h.1 hb, blk_below h.2.1 hb, blk_below h.2.2.1 hb, blk_below h.2.2.2.1 hb, Kd.R_below h.2.2.2.2.1 hb, below_then h.2.2.2.2.2 h.2.2.2.2.2.size hb⟩
theorem Sb.app {w w' w1 : World} {b2 b3 b4 b6 : Nat} {e : Int} {A B : Option Addr} {n c m d : Nat} {x : W} {V V1 : Value} {acc acc1 : List W} (h : Sb w w' b2 b3 b4 b6 e A B n c m d x V acc) (ho : k32.R 32 w1 w.heap.size (fun k => k ≠ b3) V1 acc1) (hb : Below w.heap.size w w1) (hg : w'.grownBy w1 V.ownBlock) (n2 : b2 ≠ b6) (n3 : b3 ≠ b6) (n4 : b4 ≠ b6) (hge : w.heap.size ≤ b6) :
 Sb w (w1.setCell ⟨b6, 1, none⟩ V1) b2 b3 b4 b6 e A B n c m d x V1 acc1 := by
 have hR := h.2.2.2.2.1
 have h2 := (hg.block _ (blk_lt h.1) (Kd.R_ne hR h.1 (by decide))).trans h.1
 have h3 := (hg.block _ (blk_lt h.2.1) (fun q => (hR.1 b3 q.symm) rfl)).trans h.2.1
 have h4 := (hg.block _ (blk_lt h.2.2.1) (Kd.R_ne hR h.2.2.1 (by decide))).trans h.2.2.1
 have h6 := (hg.block _ (blk_lt h.2.2.2.1) (Kd.R_ne hR h.2.2.2.1 (by decide))).trans h.2.2.2.1
 exact ⟨blk_far (p := ⟨b6, 1, none⟩) h2 n2 V1, blk_far (p := ⟨b6, 1, none⟩) h3 n3 V1, blk_far (p := ⟨b6, 1, none⟩) h4 n4 V1, blk_put h6 1 V1 rfl, Kd.R_set ho h6 (fun q hq => by rw [List.mem_singleton.1 hq]; decide) 1 V1, hb.setCell (p := ⟨b6, 1, none⟩) hge V1⟩
theorem lo_of {α : Type} {P : α → Prop} {z : α} {A B : List α} (h : ∀ a ∈ A, P a) {j : Nat} (hj : j < A.length) : P ((A ++ B).getD j z) := by
 rw [List.getD_eq_getElem?_getD, List.getElem?_append_left hj, List.getElem?_eq_getElem hj]
 exact h _ (List.getElem_mem _)
theorem hi_of {α : Type} {P : α → Prop} {z : α} {A B : List α} (h : ∀ a ∈ B, P a) {j : Nat} (hj : A.length ≤ j) (hl : j < (A ++ B).length) : P ((A ++ B).getD j z) := by
 rw [List.length_append] at hl
 rw [List.getD_eq_getElem?_getD, List.getElem?_append_right hj, List.getElem?_eq_getElem (by omega)]
 exact h _ (List.getElem_mem _)
/-- what has been laid -/
def Acc (l : List W) (x : W) (p : Nat) (pt : Bool) (i : Nat) (acc : List W) : Prop := if pt = true then p < i ∧ acc = l.take p ++ x :: (l.drop p).take (i - p) else i ≤ p ∧ acc = l.take i
theorem Acc.len {l : List W} {x : W} {p i : Nat} {pt : Bool} {acc : List W} (h : Acc l x p pt i acc) : acc.length ≤ i + 1 := by
 unfold Acc at h
 cases pt with
 | true => rw [if_pos rfl] at h; rw [h.2, List.length_append, List.length_cons, List.length_take, List.length_take]; omega
 | false => rw [if_neg Bool.false_ne_true] at h; rw [h.2, List.length_take]; omega
theorem sS {W0 : World} {b2 b6 : Nat} {e : Int} {A B : Option Addr} {n c m d : Nat} {V : Value} {ad : Addr} {l : List W} {i : Nat} (h2 : W0.heap[b2]? = some (.cells #[.int .i64 e, .slice A n c, .slice B m d] 27 (0, 0))) (h6 : W0.heap[b6]? = some (.cells #[.int .i64 e, V, .slice B m d] 27 (0, 0))) (hC : Kd.C k32 W0 (some ad) l.length l) (hi : i < l.length) (hA : A = some ad) (hn : n = l.length) {y : W} (hy : l.getD i z32 = y) :
 W0.cell? ⟨b6, 1, none⟩ = some V ∧ W0.cell? ⟨b2, 1, none⟩ = some (.slice (some ad) l.length c) ∧ W0.cell? (ad.add (i * 6)) = some (.string y.f0) ∧ W0.cell? ⟨(ad.add (i * 6)).block, (ad.add (i * 6)).off + 1, none⟩ = some (.int .i64 y.f1) ∧ W0.cell? ⟨(ad.add (i * 6)).block, (ad.add (i * 6)).off + 2, none⟩ = some (.int .i64 y.f2) ∧ W0.cell? ⟨(ad.add (i * 6)).block, (ad.add (i * 6)).off + 3, none⟩ = some (.int .i64 y.f3) ∧ W0.cell? ⟨(ad.add (i * 6)).block, (ad.add (i * 6)).off + 4, none⟩ = some (.int .i64 y.f4) ∧ W0.cell? ⟨(ad.add (i * 6)).block, (ad.add (i * 6)).off + 5, none⟩ = some (.string y.f5) := by
 subst hA
 subst hn
 subst hy
 obtain ⟨ad', eA, c0, c1, c2, c3, c4, c5⟩ := at_T32 hC (i : Int) (by omega) (by omega)
 cases eA
 rw [rdW, Int.toNat_natCast] at c0
 rw [rdW, Int.toNat_natCast] at c1
 rw [rdW, Int.toNat_natCast] at c2
 rw [rdW, Int.toNat_natCast] at c3
 rw [rdW, Int.toNat_natCast] at c4
 rw [rdW, Int.toNat_natCast] at c5
 exact ⟨(blk_cell h6 1).trans rfl, (blk_cell h2 1).trans rfl, c0, c1, c2, c3, c4, c5⟩
theorem sS3 {w w' : World} {b2 b3 b4 b6 : Nat} {e : Int} {A B : Option Addr} {n c m d : Nat} {x : W} {V : Value} {acc : List W} {ad : Addr} {l : List W} {i : Nat} (h : Sb w w' b2 b3 b4 b6 e (some ad) B l.length c m d x V acc) (hC : Kd.C k32 w' (some ad) l.length l) (hi : i < l.length) {y : W} (hy : l.getD i z32 = y) :
 w'.cell? ⟨b3, 0, none⟩ = some (.string x.f0) ∧ w'.cell? ⟨b6, 1, none⟩ = some V ∧ w'.cell? ⟨b2, 1, none⟩ = some (.slice (some ad) l.length c) ∧ w'.cell? (ad.add (i * 6)) = some (.string y.f0) ∧ w'.cell? ⟨(ad.add (i * 6)).block, (ad.add (i * 6)).off + 1, none⟩ = some (.int .i64 y.f1) ∧ w'.cell? ⟨(ad.add (i * 6)).block, (ad.add (i * 6)).off + 2, none⟩ = some (.int .i64 y.f2) ∧ w'.cell? ⟨(ad.add (i * 6)).block, (ad.add (i * 6)).off + 3, none⟩ = some (.int .i64 y.f3) ∧ w'.cell? ⟨(ad.add (i * 6)).block, (ad.add (i * 6)).off + 4, none⟩ = some (.int .i64 y.f4) ∧ w'.cell? ⟨(ad.add (i * 6)).block, (ad.add (i * 6)).off + 5, none⟩ = some (.string y.f5) :=
 ⟨(blk_cell h.2.1 0).trans rfl, sS h.1 h.2.2.2.1 hC hi rfl rfl hy⟩
theorem acc_le {l : List W} {x : W} {p i : Nat} {acc : List W} (h : Acc l x p false i acc) : i ≤ p := by unfold Acc at h; rw [if_neg Bool.false_ne_true] at h; exact h.1
theorem acc_take {l : List W} {x : W} {p i : Nat} {acc : List W} (h : Acc l x p false i acc) : i ≤ p ∧ acc = l.take i := by unfold Acc at h; rw [if_neg Bool.false_ne_true] at h; exact h
theorem take_next {l : List W} {i : Nat} (hi : i < l.length) : l.take (i + 1) = l.take i ++ [l.getD i z32] := by
 rw [List.take_add_one, List.getD_eq_getElem?_getD, List.getElem?_eq_getElem hi]; rfl
theorem acc_next {l : List W} {x : W} {p i : Nat} {pt : Bool} {acc : List W} (hi : i < l.length) (hp : pt = true ∨ ¬ i = p) (h : Acc l x p pt i acc) : Acc l x p pt (i + 1) (acc ++ [l.getD i z32]) := by
 unfold Acc at h ⊢
 cases pt with
 | true =>
  rw [if_pos rfl] at h ⊢
  refine ⟨by omega, ?_⟩
  rw [h.2, show i + 1 - p = (i - p) + 1 by omega, List.take_add_one, List.getElem?_drop, show p + (i - p) = i by omega, List.getD_eq_getElem?_getD, List.getElem?_eq_getElem hi, List.append_assoc]
  rfl
 | false =>
  rw [if_neg Bool.false_ne_true] at h ⊢
  have := hp.resolve_left Bool.false_ne_true
  exact ⟨by omega, by rw [h.2, take_next hi]⟩
theorem acc_hit {l : List W} {x : W} {p i : Nat} {acc : List W} (hi : i < l.length) (hp : i = p) (h : Acc l x p false i acc) : Acc l x p true (i + 1) (acc ++ [x] ++ [l.getD i z32]) := by
 subst hp
 rw [(acc_take h).2]
 unfold Acc
 rw [if_pos rfl]
 refine ⟨by omega, ?_⟩
 rw [show i + 1 - i = 0 + 1 by omega, List.take_add_one, List.getElem?_drop, Nat.add_zero, List.getD_eq_getElem?_getD, List.getElem?_eq_getElem hi, List.append_assoc]
 rfl
theorem acc_full {l : List W} {x : W} {p : Nat} {acc : List W} (hp : p ≤ l.length) (h : Acc l x p true l.length acc) : acc = l.take p ++ x :: l.drop p := by
 unfold Acc at h
 rw [if_pos rfl] at h
 rw [h.2, List.take_of_length_le (l := l.drop p) (by rw [List.length_drop]; exact Nat.le_refl _)]
theorem acc_end {l : List W} {x : W} {p : Nat} {acc : List W} (hp : p ≤ l.length) (h : Acc l x p false l.length acc) : acc ++ [x] = l.take p ++ x :: l.drop p := by
 obtain ⟨h1, h2⟩ := acc_take h
 obtain rfl : p = l.length := by omega
 rw [h2, List.drop_length]
set_option maxHeartbeats 8000000 in
set_option maxRecDepth 100000 in
theorem submit_any (e : Int) (A B : Option Addr) (c d q : Nat) (l : List W) (x : W) (w : World) (hA : Kd.C k32 w A l.length l) (hs : Sorted fw l) (hl : l.length ≤ 1000) :
 Calls Tryz.prog 43 #[stV e A l.length c B q d, .agg #[.string x.f0, .int .i64 x.f1, .int .i64 x.f2, .int .i64 x.f3, .int .i64 x.f4, .string x.f5]] w fun e' w' => ∃ V, e' = .returned (.tuple #[.agg #[.int .i64 (if (PuW.putS l x).2 = 0 then e else 0), V, if (PuW.putS l x).2 = 0 then .slice B q d else .slice none 0 0], .int .i64 (PuW.putS l x).2]) ∧ k32.R 32 w' w.heap.size (fun _ => True) V (PuW.putS l x).1 ∧ Below w.heap.size w w' := by
 have hB := below_alloc (below_alloc (below_alloc (Below.refl w.heap.size w) (stC e A l.length c B q d)) (xC x)) stZ
 have h2 := blk_alloc (blk_alloc (blk_new w (stC e A l.length c B q d)) (xC x)) stZ
 have h3 := blk_alloc (blk_new (w.alloc (stC e A l.length c B q d)) (xC x)) stZ
 have hA0 := Aside0.mk hA
 have h4 := blk_new ((w.alloc (stC e A l.length c B q d)).alloc (xC x)) stZ
 obtain ⟨b2, hg⟩ : ∃ g, g = w.heap.size := ⟨_, rfl⟩
 obtain ⟨b3, ho⟩ : ∃ o, o = w.heap.size + 1 := ⟨_, rfl⟩
 obtain ⟨b4, hz⟩ : ∃ z, z = w.heap.size + 1 + 1 := ⟨_, rfl⟩
 have q4 : w.heap.size ≤ b4 := by omega
 rw [← hg] at h2
 rw [show (w.alloc (stC e A l.length c B q d)).heap.size = b3 by simp [ho]] at h3
 rw [show ((w.alloc (stC e A l.length c B q d)).alloc (xC x)).heap.size = b4 by simp [hz]] at h4
 have hg' := Lib.hid hg
 have ho' := Lib.hid ho
 have hz' := Lib.hid hz
 clear hg ho hz
 obtain ⟨r, hr⟩ : ∃ r, r = PuW.putS l x := ⟨_, rfl⟩
 rw [← hr]
 replace hr := Lib.hid hr
 go_enter Tryz.func43, Tryz.ntmps43
 go_wp2_with fail
 try simp only [Nat.add_assoc] at hz'
 rw [← hz'.out, ← ho'.out, ← hg'.out]
 revert hB; revert h2; revert h3; revert h4
 generalize ((w.alloc (stC e A l.length c B q d)).alloc (xC x)).alloc stZ = wa
 intro h4 h3 h2 hB
 have hcl := work_any e A B l.length c q d l x.f0 wa rfl (Kd.C_below hA hB) hs hl
 refine hcl.mono ?_; rintro e' w1 ⟨rfl, hb1⟩
 clear hcl
 replace h2 := blk_below h2 hb1
 replace h3 := blk_below h3 hb1
 replace h4 := blk_below h4 hb1
 replace hA := Kd.C_below (Kd.C_below hA hB) hb1
 replace hB := below_then hB hB.size hb1
 clear hb1
 have s0 := (blk_cell h2 0).trans rfl
 have s1 := (blk_cell h2 1).trans rfl
 have s2 := (blk_cell h2 2).trans rfl
 cases hh : hasG fw z32 l x.f0 with
 | true =>
  have hp : r = ([], 121) := hr.out.trans (if_pos hh)
  clear hr
  subst hp
  rw [show ix (fun x : W => x.f0) z32 l x.f0 = ((cnt fw l x.f0 : Nat) : Int) from if_pos hh]
  generalize cnt fw l x.f0 = p
  have d0 : decide ((0 : Int) ≤ (p : Int)) = true := decide_eq_true (by omega)
  have z0 := (blk_cell h4 0).trans rfl
  have z1 := (blk_cell h4 1).trans rfl
  have z2 := (blk_cell h4 2).trans rfl
  have y0 := blk_frozen h4 0
  have y1 := blk_frozen h4 1
  have y2 := blk_frozen h4 2
  obtain ⟨hZ9, hG9⟩ := put3 (.int .i64 0) (.slice none 0 0) (.slice none 0 0) h4
  replace hZ9 := Lib.hid hZ9
  replace hG9 := Lib.hid hG9
  go_wp2_with fail
  refine bodyPost_ret (results_ct rfl _ _ b4 27 _ (0, 0) _ rfl hZ9.out Tryz.underlying27 rfl (by kernel_rfl)) rfl ?_
  exact ⟨.slice none 0 0, rfl, Kd.R_nil _ _ _ _ _, hB.grown hG9.out hB.size (fun k e => by injection e with e; omega)⟩
 | false =>
  rw [show ix (fun x : W => x.f0) z32 l x.f0 = -1 from if_neg (by rw [show hasG (fun x : W => x.f0) z32 l x.f0 = false from hh]; exact Bool.false_ne_true)]
  by_cases h8 : 8 ≤ l.length
  ·have hp : r = ([], 123) := hr.out.trans ((if_neg (by rw [show FiW.has l x.f0 = false from hh]; exact Bool.false_ne_true)).trans (if_pos h8))
   clear hr
   subst hp
   have d8 : decide ((8 : Int) ≤ (l.length : Int)) = true := decide_eq_true (by omega)
   have z0 := (blk_cell h4 0).trans rfl
   have z1 := (blk_cell h4 1).trans rfl
   have z2 := (blk_cell h4 2).trans rfl
   have y0 := blk_frozen h4 0
   have y1 := blk_frozen h4 1
   have y2 := blk_frozen h4 2
   obtain ⟨hZ9, hG9⟩ := put3 (.int .i64 0) (.slice none 0 0) (.slice none 0 0) h4
   replace hZ9 := Lib.hid hZ9
   replace hG9 := Lib.hid hG9
   go_wp2_with fail
   refine bodyPost_ret (results_ct rfl _ _ b4 27 _ (0, 0) _ rfl hZ9.out Tryz.underlying27 rfl (by kernel_rfl)) rfl ?_
   exact ⟨.slice none 0 0, rfl, Kd.R_nil _ _ _ _ _, hB.grown hG9.out hB.size (fun k e => by injection e with e; omega)⟩
  ·have hp : r = (l.take (cnt fw l x.f0) ++ x :: l.drop (cnt fw l x.f0), 0) := hr.out.trans ((if_neg (by rw [show FiW.has l x.f0 = false from hh]; exact Bool.false_ne_true)).trans (if_neg h8))
   clear hr
   subst hp
   obtain ⟨_, Ah, Bh, e1, e2, e3, e4, _, _⟩ := has_no fw z32 hs hh
   have hlo : ∀ j, j < cnt fw l x.f0 → lt (l.getD j z32).f0 x.f0 = true := fun j hj => (by rw [e2] at hj; (conv => lhs; rw [e1]); exact lo_of (P := fun a : W => lt a.f0 x.f0 = true) e3 hj)
   have hhi : ∀ j, cnt fw l x.f0 ≤ j → j < l.length → lt x.f0 (l.getD j z32).f0 = true := fun j hj hl2 => (by rw [e2] at hj; rw [e1] at hl2; (conv => lhs; rw [e1]); exact hi_of (P := fun a : W => lt x.f0 a.f0 = true) e4 hj hl2)
   have hpl : cnt fw l x.f0 ≤ l.length := List.countP_le_length
   clear e1 e2 e3 e4 hh
   replace hlo := Aside0.mk hlo
   replace hhi := Aside0.mk hhi
   generalize hpe : cnt fw l x.f0 = p at *
   replace hpe := Lib.hid hpe
   have d8 : decide ((8 : Int) ≤ (l.length : Int)) = false := decide_eq_false (by omega)
   go_wp2_with fail
   have n2 := Lib.hid (Nat.ne_of_lt (blk_lt h2))
   have n3 := Lib.hid (Nat.ne_of_lt (blk_lt h3))
   have n4 := Lib.hid (Nat.ne_of_lt (blk_lt h4))
   have q6 := Lib.hid hB.size
   have hF := Aside0.mk (show Sb w (w1.alloc (stC e none 0 0 B q d)) b2 b3 b4 w1.heap.size e A B l.length c q d x (.slice none 0 0) [] from ⟨blk_alloc h2 _, blk_alloc h3 _, blk_alloc h4 _, blk_new w1 _, Kd.R_nil _ _ _ _ _, below_alloc hB _⟩)
   have hA' := hA0
   clear h2 h3 h4 s0 s1 s2 hA hs d8
   replace hB := Aside0.mk hB
   generalize w1.alloc (stC e none 0 0 B q d) = wb at *
   generalize w1.heap.size = b6 at *
   go_loopg [7, 8] l.length (fun kx v7 v8 wr => ∃ (pt : Bool) (i : Nat) (V : Value) (acc : List W), v7 = .bool pt ∧ v8 = .int .i64 (i : Int) ∧ i + kx = l.length ∧ acc.length ≤ i + 1 ∧ Aside0 (Acc l x p pt i acc) ∧ Aside0 (Sb w wr b2 b3 b4 b6 e A B l.length c q d x V acc))
   case atStart => exact ⟨false, 0, _, [], rfl, rfl, by omega, Nat.zero_le _, Aside0.mk (by unfold Acc; rw [if_neg Bool.false_ne_true]; exact ⟨Nat.zero_le _, rfl⟩), hF⟩
   case round =>
    clear hF
    obtain ⟨pt, i, V, acc, rfl, rfl, hik, hal, hAcc, hF⟩ := hrel
    have s1 := (blk_cell hF.out.1 1).trans rfl
    by_cases hi : i < l.length
    ·obtain ⟨k, rfl⟩ : ∃ k, gk = k + 1 := ⟨gk - 1, by omega⟩
     have d1 : decide ((i : Int) < (l.length : Int)) = true := decide_eq_true (by omega)
     obtain ⟨ad, eA, _⟩ := at_T32 hA0.out (i : Int) (by omega) (by omega)
     cases eA
     obtain ⟨y, hy⟩ : ∃ y, l.getD i z32 = y := ⟨_, rfl⟩
     replace hy := Lib.hid hy
     have pi : (0 ≤ (i : Int)) = True := eq_true (by omega)
     have qi : ((i : Int) < (l.length : Int)) = True := eq_true (by omega)
     go_wp2_with fail
     clear s1
     cases pt with
     | true =>
      refine start_ (n := 13) (S := fun w' => w'.cell? ⟨b3, 0, none⟩ = some (.string x.f0) ∧ w'.cell? ⟨b6, 1, none⟩ = some V ∧ w'.cell? ⟨b2, 1, none⟩ = some (.slice (some ad) l.length c) ∧ w'.cell? (ad.add (i * 6)) = some (.string y.f0) ∧ w'.cell? ⟨(ad.add (i * 6)).block, (ad.add (i * 6)).off + 1, none⟩ = some (.int .i64 y.f1) ∧ w'.cell? ⟨(ad.add (i * 6)).block, (ad.add (i * 6)).off + 2, none⟩ = some (.int .i64 y.f2) ∧ w'.cell? ⟨(ad.add (i * 6)).block, (ad.add (i * 6)).off + 3, none⟩ = some (.int .i64 y.f3) ∧ w'.cell? ⟨(ad.add (i * 6)).block, (ad.add (i * 6)).off + 4, none⟩ = some (.int .i64 y.f4) ∧ w'.cell? ⟨(ad.add (i * 6)).block, (ad.add (i * 6)).off + 5, none⟩ = some (.string y.f5)) (ds := []) (bt 13 0) (by kernel_rfl) rfl (by kernel_rfl) ((sS3 (w' := wr) (A := none) (n := 0) hF.out (Kd.C_below hA0.out hF.out.2.2.2.2.2) hi hy.out)) (fun hHeld => ?_)
      replace hF := Aside0.mk (hF.out.below (below_drew (Below.refl _ _)))
      generalize wr.drew = wd at *
      refine py 0 32 (bt 13 1) rfl rfl (h := ?_)
      refine py 1 33 (bt 13 3) rfl rfl (h := ?_)
      refine py 2 34 (bt 13 7) rfl rfl (h := ?_)
      refine oy 3 35 (bt 13 15) rfl rfl (h := ?_)
      refine oy 4 36 (bt 13 31) rfl rfl (h := ?_)
      refine oy 5 37 (bt 13 63) rfl rfl (h := ?_)
      refine oy 6 38 (bt 13 127) rfl rfl (h := ?_)
      refine oy 7 39 (bt 13 255) rfl rfl (h := ?_)
      refine oy 8 40 (bt 13 511) rfl rfl (h := ?_)
      refine oy 9 41 (bt 13 1023) rfl rfl (h := ?_)
      refine oy 10 42 (bt 13 2047) rfl rfl (h := ?_)
      refine oy 11 43 (bt 13 4095) rfl rfl (h := ?_)
      refine py 12 44 (bt 13 8191) rfl rfl (h := ?_)
      refine done_ (by kernel_rfl) ?_
      go_wp2_with fail
      refine start_ (n := 11) (S := fun w' => w'.cell? ⟨b6, 1, none⟩ = some (V) ∧ w'.cell? ⟨b2, 1, none⟩ = some (.slice (some ad) l.length c) ∧ w'.cell? (ad.add (i * 6)) = some (.string y.f0) ∧ w'.cell? ⟨(ad.add (i * 6)).block, (ad.add (i * 6)).off + 1, none⟩ = some (.int .i64 y.f1) ∧ w'.cell? ⟨(ad.add (i * 6)).block, (ad.add (i * 6)).off + 2, none⟩ = some (.int .i64 y.f2) ∧ w'.cell? ⟨(ad.add (i * 6)).block, (ad.add (i * 6)).off + 3, none⟩ = some (.int .i64 y.f3) ∧ w'.cell? ⟨(ad.add (i * 6)).block, (ad.add (i * 6)).off + 4, none⟩ = some (.int .i64 y.f4) ∧ w'.cell? ⟨(ad.add (i * 6)).block, (ad.add (i * 6)).off + 5, none⟩ = some (.string y.f5)) (ds := [10]) (bt 11 0) (by kernel_rfl) rfl (by kernel_rfl) (sS (W0 := wd) hF.out.1 hF.out.2.2.2.1 (Kd.C_below hA0.out hF.out.2.2.2.2.2) hi rfl rfl hy.out) (fun hHeld => ?_)
      replace hF := Aside0.mk (hF.out.below (below_drew (Below.refl _ _)))
      generalize wd.drew = wd at *
      refine py 0 51 (bt 11 1) rfl rfl (h := ?_)
      refine ty 1 52 (bt 11 3) rfl rfl hHeld (h := ?_)
      refine py 2 53 (bt 11 7) rfl rfl (h := ?_)
      refine ty 3 54 (bt 11 15) rfl rfl hHeld (h := ?_)
      refine py 4 55 (bt 11 31) rfl rfl (h := ?_)
      refine py 5 56 (bt 11 63) rfl rfl (h := ?_)
      refine ty 6 57 (bt 11 127) rfl rfl hHeld (h := ?_)
      refine oe 7 58 (bt 11 255) rfl rfl (fun K hK => ?_); refine puts_ (some 58) (by rfl) rfl (v := .slice (some ⟨wd.heap.size, 0, none⟩) 1 1) (w1 := wd.alloc (.cells #[.string y.f0, .int .i64 y.f1, .int .i64 y.f2, .int .i64 y.f3, .int .i64 y.f4, .string y.f5] 32)) (by first | (go_simp; done) | (go_simp; rfl)) ?_; refine hK.out _ _ (sS (blk_alloc hF.out.1 _) (blk_alloc hF.out.2.2.2.1 _) (Kd.C_below hA0.out (below_alloc hF.out.2.2.2.2.2 _)) hi rfl rfl hy.out) (fun hHeld => ?_); clear hK K; refine ny (h := ?_)
      refine oe 8 59 (bt 11 511) rfl rfl (fun K hK => ?_); refine Kd.R_append_step k32 (w0 := w) w.heap.size (by rfl) (.tmp 52) (.tmp 58) 24 32 (.agg #[.string ⟨#[]⟩, .int .i64 0, .int .i64 0, .int .i64 0, .int .i64 0, .string ⟨#[]⟩]) 64 rfl Tryz.underlying24 info32 rfl (by decide) (by omega) _ acc y [.string y.f0, .int .i64 y.f1, .int .i64 y.f2, .int .i64 y.f3, .int .i64 y.f4, .string y.f5] (fun k => k ≠ b3) (fun _ => False) rfl rfl ?aP (fun _ hk => hk.elim) ?aF ?aO ?aB ?aS ?aL ?_; (case aP => exact k32_mkM _ _ _ _); (case aB => exact hF.out.2.2.2.2.2); (case aF => exact (fun k hk => by have := blk_lt hF.out.2.1; omega)); (case aO => exact hF.out.2.2.2.2.1); (case aS => exact hF.out.2.2.2.2.2.size); (case aL => rw [show acc.length + 1 = acc.length + 1 by simp]; omega); intro V1 w5 ho hb hg hat
      obtain ⟨A5, c5_, rfl⟩ := Kd.R_slice ho
      have x2 := (hg.block _ (blk_lt hF.out.1) (Kd.R_ne hF.out.2.2.2.2.1 hF.out.1 (by decide))).trans hF.out.1
      have x6 := (hg.block _ (blk_lt hF.out.2.2.2.1) (Kd.R_ne hF.out.2.2.2.2.1 hF.out.2.2.2.1 (by decide))).trans hF.out.2.2.2.1
      refine hK.out _ _ (sS x2 x6 (Kd.C_below hA0.out hb) hi rfl rfl hy.out) (fun hHeld => ?_); clear hK K; refine ny (h := ?_)
      refine py 9 60 (bt 11 1023) rfl rfl (h := ?_)
      refine last_ (i := 10) (N := none) (bt 11 2047) rfl rfl (by kernel_rfl) (by decide) (fun K hK => ?_)
      have y6 := blk_frozen x6 1
      have z6 := (blk_cell x6 1).trans rfl
      refine sk ?_
      refine hK.out _ _ ?_
      clear hK K
      refine done_ (by kernel_rfl) ?_
      have hF9 := Aside0.mk (hF.out.app ho hb hg n2.out n3.out n4.out q6.out)
      rw [show (acc ++ [y]).length = acc.length + 1 by simp] at hF9
      clear x2 x6 y6 z6 ho hb hg hat hHeld hF
      go_wp2_with fail
      go_roundg k
      case measure => omega
      case rel => exact ⟨true, i + 1, _, _, rfl, by first | rfl | (simp; done), by omega, by rw [List.length_append, List.length_singleton]; omega, Aside0.mk (hy.out ▸ acc_next hi (Or.inl rfl) hAcc.out), hF9⟩
     | false =>
      by_cases hip : i = p
      ·have hl1 := Aside0.mk (show Op.bytesLess x.f0.toList y.f0.toList = true from by rw [← hy.out]; exact hhi.out i (by omega) hi)
       have hl2 := hl1.out
       have hip' := Lib.hid hip
       clear hip
       refine start_ (n := 13) (S := fun w' => w'.cell? ⟨b3, 0, none⟩ = some (.string x.f0) ∧ w'.cell? ⟨b6, 1, none⟩ = some V ∧ w'.cell? ⟨b2, 1, none⟩ = some (.slice (some ad) l.length c) ∧ w'.cell? (ad.add (i * 6)) = some (.string y.f0) ∧ w'.cell? ⟨(ad.add (i * 6)).block, (ad.add (i * 6)).off + 1, none⟩ = some (.int .i64 y.f1) ∧ w'.cell? ⟨(ad.add (i * 6)).block, (ad.add (i * 6)).off + 2, none⟩ = some (.int .i64 y.f2) ∧ w'.cell? ⟨(ad.add (i * 6)).block, (ad.add (i * 6)).off + 3, none⟩ = some (.int .i64 y.f3) ∧ w'.cell? ⟨(ad.add (i * 6)).block, (ad.add (i * 6)).off + 4, none⟩ = some (.int .i64 y.f4) ∧ w'.cell? ⟨(ad.add (i * 6)).block, (ad.add (i * 6)).off + 5, none⟩ = some (.string y.f5)) (ds := []) (bt 13 0) (by kernel_rfl) rfl (by kernel_rfl) ((sS3 (w' := wr) (A := none) (n := 0) hF.out (Kd.C_below hA0.out hF.out.2.2.2.2.2) hi hy.out)) (fun hHeld => ?_)
       replace hF := Aside0.mk (hF.out.below (below_drew (Below.refl _ _)))
       generalize wr.drew = wd at *
       refine py 0 32 (bt 13 1) rfl rfl (h := ?_)
       refine py 1 33 (bt 13 3) rfl rfl (h := ?_)
       refine py 2 34 (bt 13 7) rfl rfl (h := ?_)
       refine py 3 35 (bt 13 15) rfl rfl (h := ?_)
       refine ty 4 36 (bt 13 31) rfl rfl hHeld (h := ?_)
       refine py 5 37 (bt 13 63) rfl rfl (h := ?_)
       refine py 6 38 (bt 13 127) rfl rfl (h := ?_)
       refine py 7 39 (bt 13 255) rfl rfl (h := ?_)
       refine ty 8 40 (bt 13 511) rfl rfl hHeld (h := ?_)
       refine py 9 41 (bt 13 1023) rfl rfl (h := ?_)
       refine ty 10 42 (bt 13 2047) rfl rfl hHeld (h := ?_)
       refine py 11 43 (bt 13 4095) rfl rfl (h := ?_)
       refine py 12 44 (bt 13 8191) rfl rfl (h := ?_)
       refine done_ (by kernel_rfl) ?_
       have v6 := (blk_cell hF.out.2.2.2.1 1).trans rfl
       have v0_ := (blk_cell hF.out.2.1 0).trans rfl
       have v1_ := (blk_cell hF.out.2.1 1).trans rfl
       have v2_ := (blk_cell hF.out.2.1 2).trans rfl
       have v3_ := (blk_cell hF.out.2.1 3).trans rfl
       have v4_ := (blk_cell hF.out.2.1 4).trans rfl
       have v5_ := (blk_cell hF.out.2.1 5).trans rfl; go_wp2_with (first | ((with_reducible refine gate_builtin (b := .append) (xs := #[.tmp 46, .tmp 48]) rfl ?_); at_builtin; refine Kd.R_append k32 (w0 := w) w.heap.size rfl (.tmp 46) (.tmp 48) 24 32 (.agg #[.string ⟨#[]⟩, .int .i64 0, .int .i64 0, .int .i64 0, .int .i64 0, .string ⟨#[]⟩]) 64 rfl Tryz.underlying24 info32 rfl (by decide) (by omega) _ acc x [.string x.f0, .int .i64 x.f1, .int .i64 x.f2, .int .i64 x.f3, .int .i64 x.f4, .string x.f5] (fun k => k ≠ b3) (fun _ => False) rfl rfl ?aP (fun _ hk => hk.elim) ?aF ?aO ?aB ?aS ?aL ?_; (case aP => exact k32_mkM _ _ _ _); (case aB => exact hF.out.2.2.2.2.2); (case aF => exact (fun k hk => by have := blk_lt hF.out.2.1; omega)); (case aO => exact hF.out.2.2.2.2.1); (case aS => exact hF.out.2.2.2.2.2.size); (case aL => omega); intro V1 w5 ho hb hg hat; obtain ⟨A6, c6_, rfl⟩ := Kd.R_slice ho; have hF5 := Aside0.mk (hF.out.app ho hb hg n2.out n3.out n4.out q6.out); have x6 := (hg.block _ (blk_lt hF.out.2.2.2.1) (Kd.R_ne hF.out.2.2.2.2.1 hF.out.2.2.2.1 (by decide))).trans hF.out.2.2.2.1; have y6 := blk_frozen x6 1; have x6 := (blk_cell x6 1).trans rfl))
       replace hF := hF5
       rw [show (acc ++ [x]).length = acc.length + 1 by rw [List.length_append, List.length_singleton]] at hF
       clear hF5
       refine start_ (n := 11) (S := fun w' => w'.cell? ⟨b6, 1, none⟩ = some (.slice A6 (acc.length + 1) c6_) ∧ w'.cell? ⟨b2, 1, none⟩ = some (.slice (some ad) l.length c) ∧ w'.cell? (ad.add (i * 6)) = some (.string y.f0) ∧ w'.cell? ⟨(ad.add (i * 6)).block, (ad.add (i * 6)).off + 1, none⟩ = some (.int .i64 y.f1) ∧ w'.cell? ⟨(ad.add (i * 6)).block, (ad.add (i * 6)).off + 2, none⟩ = some (.int .i64 y.f2) ∧ w'.cell? ⟨(ad.add (i * 6)).block, (ad.add (i * 6)).off + 3, none⟩ = some (.int .i64 y.f3) ∧ w'.cell? ⟨(ad.add (i * 6)).block, (ad.add (i * 6)).off + 4, none⟩ = some (.int .i64 y.f4) ∧ w'.cell? ⟨(ad.add (i * 6)).block, (ad.add (i * 6)).off + 5, none⟩ = some (.string y.f5)) (ds := [10]) (bt 11 0) (by kernel_rfl) rfl (by kernel_rfl) (sS (W0 := (w5.setCell ⟨b6, 1, none⟩ (.slice A6 (acc.length + 1) c6_))) hF.out.1 hF.out.2.2.2.1 (Kd.C_below hA0.out hF.out.2.2.2.2.2) hi rfl rfl hy.out) (fun hHeld => ?_)
       replace hF := Aside0.mk (hF.out.below (below_drew (Below.refl _ _)))
       generalize (w5.setCell ⟨b6, 1, none⟩ (.slice A6 (acc.length + 1) c6_)).drew = wd at *
       refine py 0 51 (bt 11 1) rfl rfl (h := ?_)
       refine ty 1 52 (bt 11 3) rfl rfl hHeld (h := ?_)
       refine py 2 53 (bt 11 7) rfl rfl (h := ?_)
       refine ty 3 54 (bt 11 15) rfl rfl hHeld (h := ?_)
       refine py 4 55 (bt 11 31) rfl rfl (h := ?_)
       refine py 5 56 (bt 11 63) rfl rfl (h := ?_)
       refine ty 6 57 (bt 11 127) rfl rfl hHeld (h := ?_)
       refine oe 7 58 (bt 11 255) rfl rfl (fun K hK => ?_); refine puts_ (some 58) (by rfl) rfl (v := .slice (some ⟨wd.heap.size, 0, none⟩) 1 1) (w1 := wd.alloc (.cells #[.string y.f0, .int .i64 y.f1, .int .i64 y.f2, .int .i64 y.f3, .int .i64 y.f4, .string y.f5] 32)) (by first | (go_simp; done) | (go_simp; rfl)) ?_; refine hK.out _ _ (sS (blk_alloc hF.out.1 _) (blk_alloc hF.out.2.2.2.1 _) (Kd.C_below hA0.out (below_alloc hF.out.2.2.2.2.2 _)) hi rfl rfl hy.out) (fun hHeld => ?_); clear hK K; refine ny (h := ?_)
       refine oe 8 59 (bt 11 511) rfl rfl (fun K hK => ?_); refine Kd.R_append_step k32 (w0 := w) w.heap.size (by rfl) (.tmp 52) (.tmp 58) 24 32 (.agg #[.string ⟨#[]⟩, .int .i64 0, .int .i64 0, .int .i64 0, .int .i64 0, .string ⟨#[]⟩]) 64 rfl Tryz.underlying24 info32 rfl (by decide) (by omega) _ (acc ++ [x]) y [.string y.f0, .int .i64 y.f1, .int .i64 y.f2, .int .i64 y.f3, .int .i64 y.f4, .string y.f5] (fun k => k ≠ b3) (fun _ => False) rfl rfl ?aP (fun _ hk => hk.elim) ?aF ?aO ?aB ?aS ?aL ?_; (case aP => exact k32_mkM _ _ _ _); (case aB => exact hF.out.2.2.2.2.2); (case aF => exact (fun k hk => by have := blk_lt hF.out.2.1; omega)); (case aO => exact hF.out.2.2.2.2.1); (case aS => exact hF.out.2.2.2.2.2.size); (case aL => rw [show (acc ++ [x]).length + 1 = acc.length + 2 by simp]; omega); intro V1 w5 ho hb hg hat
       obtain ⟨A5, c5_, rfl⟩ := Kd.R_slice ho
       have x2 := (hg.block _ (blk_lt hF.out.1) (Kd.R_ne hF.out.2.2.2.2.1 hF.out.1 (by decide))).trans hF.out.1
       have x6 := (hg.block _ (blk_lt hF.out.2.2.2.1) (Kd.R_ne hF.out.2.2.2.2.1 hF.out.2.2.2.1 (by decide))).trans hF.out.2.2.2.1
       refine hK.out _ _ (sS x2 x6 (Kd.C_below hA0.out hb) hi rfl rfl hy.out) (fun hHeld => ?_); clear hK K; refine ny (h := ?_)
       refine py 9 60 (bt 11 1023) rfl rfl (h := ?_)
       refine last_ (i := 10) (N := none) (bt 11 2047) rfl rfl (by kernel_rfl) (by decide) (fun K hK => ?_)
       have y6 := blk_frozen x6 1
       have z6 := (blk_cell x6 1).trans rfl
       refine sk ?_
       refine hK.out _ _ ?_
       clear hK K
       refine done_ (by kernel_rfl) ?_
       have hF9 := Aside0.mk (hF.out.app ho hb hg n2.out n3.out n4.out q6.out)
       rw [show ((acc ++ [x]) ++ [y]).length = acc.length + 2 by simp] at hF9
       clear x2 x6 y6 z6 ho hb hg hat hHeld hF
       go_wp2_with fail
       go_roundg k
       case measure => omega
       case rel => exact ⟨true, i + 1, _, _, rfl, by first | rfl | (simp; done), by omega, by rw [List.length_append, List.length_append, List.length_singleton, List.length_singleton, (acc_take hAcc.out).2, List.length_take]; omega, Aside0.mk (hy.out ▸ acc_hit hi hip'.out hAcc.out), hF9⟩
      ·have hl2 : Op.bytesLess x.f0.toList y.f0.toList = false := by rw [← hy.out]; exact lt_asymm (hlo.out i (by have := acc_le hAcc.out; omega))
       have hip' := Lib.hid hip
       clear hip
       refine start_ (n := 13) (S := fun w' => w'.cell? ⟨b3, 0, none⟩ = some (.string x.f0) ∧ w'.cell? ⟨b6, 1, none⟩ = some V ∧ w'.cell? ⟨b2, 1, none⟩ = some (.slice (some ad) l.length c) ∧ w'.cell? (ad.add (i * 6)) = some (.string y.f0) ∧ w'.cell? ⟨(ad.add (i * 6)).block, (ad.add (i * 6)).off + 1, none⟩ = some (.int .i64 y.f1) ∧ w'.cell? ⟨(ad.add (i * 6)).block, (ad.add (i * 6)).off + 2, none⟩ = some (.int .i64 y.f2) ∧ w'.cell? ⟨(ad.add (i * 6)).block, (ad.add (i * 6)).off + 3, none⟩ = some (.int .i64 y.f3) ∧ w'.cell? ⟨(ad.add (i * 6)).block, (ad.add (i * 6)).off + 4, none⟩ = some (.int .i64 y.f4) ∧ w'.cell? ⟨(ad.add (i * 6)).block, (ad.add (i * 6)).off + 5, none⟩ = some (.string y.f5)) (ds := []) (bt 13 0) (by kernel_rfl) rfl (by kernel_rfl) ((sS3 (w' := wr) (A := none) (n := 0) hF.out (Kd.C_below hA0.out hF.out.2.2.2.2.2) hi hy.out)) (fun hHeld => ?_)
       replace hF := Aside0.mk (hF.out.below (below_drew (Below.refl _ _)))
       generalize wr.drew = wd at *
       refine py 0 32 (bt 13 1) rfl rfl (h := ?_)
       refine py 1 33 (bt 13 3) rfl rfl (h := ?_)
       refine py 2 34 (bt 13 7) rfl rfl (h := ?_)
       refine py 3 35 (bt 13 15) rfl rfl (h := ?_)
       refine ty 4 36 (bt 13 31) rfl rfl hHeld (h := ?_)
       refine py 5 37 (bt 13 63) rfl rfl (h := ?_)
       refine py 6 38 (bt 13 127) rfl rfl (h := ?_)
       refine py 7 39 (bt 13 255) rfl rfl (h := ?_)
       refine ty 8 40 (bt 13 511) rfl rfl hHeld (h := ?_)
       refine py 9 41 (bt 13 1023) rfl rfl (h := ?_)
       refine ty 10 42 (bt 13 2047) rfl rfl hHeld (h := ?_)
       refine py 11 43 (bt 13 4095) rfl rfl (h := ?_)
       refine py 12 44 (bt 13 8191) rfl rfl (h := ?_)
       refine done_ (by kernel_rfl) ?_
       go_wp2_with fail
       refine start_ (n := 11) (S := fun w' => w'.cell? ⟨b6, 1, none⟩ = some (V) ∧ w'.cell? ⟨b2, 1, none⟩ = some (.slice (some ad) l.length c) ∧ w'.cell? (ad.add (i * 6)) = some (.string y.f0) ∧ w'.cell? ⟨(ad.add (i * 6)).block, (ad.add (i * 6)).off + 1, none⟩ = some (.int .i64 y.f1) ∧ w'.cell? ⟨(ad.add (i * 6)).block, (ad.add (i * 6)).off + 2, none⟩ = some (.int .i64 y.f2) ∧ w'.cell? ⟨(ad.add (i * 6)).block, (ad.add (i * 6)).off + 3, none⟩ = some (.int .i64 y.f3) ∧ w'.cell? ⟨(ad.add (i * 6)).block, (ad.add (i * 6)).off + 4, none⟩ = some (.int .i64 y.f4) ∧ w'.cell? ⟨(ad.add (i * 6)).block, (ad.add (i * 6)).off + 5, none⟩ = some (.string y.f5)) (ds := [10]) (bt 11 0) (by kernel_rfl) rfl (by kernel_rfl) (sS (W0 := wd) hF.out.1 hF.out.2.2.2.1 (Kd.C_below hA0.out hF.out.2.2.2.2.2) hi rfl rfl hy.out) (fun hHeld => ?_)
       replace hF := Aside0.mk (hF.out.below (below_drew (Below.refl _ _)))
       generalize wd.drew = wd at *
       refine py 0 51 (bt 11 1) rfl rfl (h := ?_)
       refine ty 1 52 (bt 11 3) rfl rfl hHeld (h := ?_)
       refine py 2 53 (bt 11 7) rfl rfl (h := ?_)
       refine ty 3 54 (bt 11 15) rfl rfl hHeld (h := ?_)
       refine py 4 55 (bt 11 31) rfl rfl (h := ?_)
       refine py 5 56 (bt 11 63) rfl rfl (h := ?_)
       refine ty 6 57 (bt 11 127) rfl rfl hHeld (h := ?_)
       refine oe 7 58 (bt 11 255) rfl rfl (fun K hK => ?_); refine puts_ (some 58) (by rfl) rfl (v := .slice (some ⟨wd.heap.size, 0, none⟩) 1 1) (w1 := wd.alloc (.cells #[.string y.f0, .int .i64 y.f1, .int .i64 y.f2, .int .i64 y.f3, .int .i64 y.f4, .string y.f5] 32)) (by first | (go_simp; done) | (go_simp; rfl)) ?_; refine hK.out _ _ (sS (blk_alloc hF.out.1 _) (blk_alloc hF.out.2.2.2.1 _) (Kd.C_below hA0.out (below_alloc hF.out.2.2.2.2.2 _)) hi rfl rfl hy.out) (fun hHeld => ?_); clear hK K; refine ny (h := ?_)
       refine oe 8 59 (bt 11 511) rfl rfl (fun K hK => ?_); refine Kd.R_append_step k32 (w0 := w) w.heap.size (by rfl) (.tmp 52) (.tmp 58) 24 32 (.agg #[.string ⟨#[]⟩, .int .i64 0, .int .i64 0, .int .i64 0, .int .i64 0, .string ⟨#[]⟩]) 64 rfl Tryz.underlying24 info32 rfl (by decide) (by omega) _ acc y [.string y.f0, .int .i64 y.f1, .int .i64 y.f2, .int .i64 y.f3, .int .i64 y.f4, .string y.f5] (fun k => k ≠ b3) (fun _ => False) rfl rfl ?aP (fun _ hk => hk.elim) ?aF ?aO ?aB ?aS ?aL ?_; (case aP => exact k32_mkM _ _ _ _); (case aB => exact hF.out.2.2.2.2.2); (case aF => exact (fun k hk => by have := blk_lt hF.out.2.1; omega)); (case aO => exact hF.out.2.2.2.2.1); (case aS => exact hF.out.2.2.2.2.2.size); (case aL => rw [show acc.length + 1 = acc.length + 1 by simp]; omega); intro V1 w5 ho hb hg hat
       obtain ⟨A5, c5_, rfl⟩ := Kd.R_slice ho
       have x2 := (hg.block _ (blk_lt hF.out.1) (Kd.R_ne hF.out.2.2.2.2.1 hF.out.1 (by decide))).trans hF.out.1
       have x6 := (hg.block _ (blk_lt hF.out.2.2.2.1) (Kd.R_ne hF.out.2.2.2.2.1 hF.out.2.2.2.1 (by decide))).trans hF.out.2.2.2.1
       refine hK.out _ _ (sS x2 x6 (Kd.C_below hA0.out hb) hi rfl rfl hy.out) (fun hHeld => ?_); clear hK K; refine ny (h := ?_)
       refine py 9 60 (bt 11 1023) rfl rfl (h := ?_)
       refine last_ (i := 10) (N := none) (bt 11 2047) rfl rfl (by kernel_rfl) (by decide) (fun K hK => ?_)
       have y6 := blk_frozen x6 1
       have z6 := (blk_cell x6 1).trans rfl
       refine sk ?_
       refine hK.out _ _ ?_
       clear hK K
       refine done_ (by kernel_rfl) ?_
       have hF9 := Aside0.mk (hF.out.app ho hb hg n2.out n3.out n4.out q6.out)
       rw [show (acc ++ [y]).length = acc.length + 1 by simp] at hF9
       clear x2 x6 y6 z6 ho hb hg hat hHeld hF
       go_wp2_with fail
       go_roundg k
       case measure => omega
       case rel => exact ⟨false, i + 1, _, _, rfl, by first | rfl | (simp; done), by omega, by rw [List.length_append, List.length_singleton]; omega, Aside0.mk (hy.out ▸ acc_next hi (Or.inr hip'.out) hAcc.out), hF9⟩
    ·obtain rfl : i = l.length := by omega
     have d1 : decide ((l.length : Int) < (l.length : Int)) = false := decide_eq_false (by omega)
     cases pt with
     | true =>
      have he := Lib.hid (acc_full hpl hAcc.out)
      obtain ⟨A6, c6_, rfl⟩ := Kd.R_slice hF.out.2.2.2.2.1
      have x0 := (blk_cell hF.out.2.2.2.1 0).trans rfl
      have x1 := (blk_cell hF.out.2.2.2.1 1).trans rfl
      have x2 := (blk_cell hF.out.2.2.2.1 2).trans rfl
      have z0 := (blk_cell hF.out.2.2.1 0).trans rfl
      have y0 := blk_frozen hF.out.2.2.1 0
      have z1 := (blk_cell hF.out.2.2.1 1).trans rfl
      have y1 := blk_frozen hF.out.2.2.1 1
      have z2 := (blk_cell hF.out.2.2.1 2).trans rfl
      have y2 := blk_frozen hF.out.2.2.1 2
      obtain ⟨hZ9, hG9⟩ := put3 (.int .i64 e) (.slice A6 acc.length c6_) (.slice B q d) hF.out.2.2.1
      replace hZ9 := Lib.hid hZ9
      replace hG9 := Lib.hid hG9
      go_wp2_with fail
      refine bodyPost_ret (results_ct rfl _ _ b4 27 _ (0, 0) _ rfl hZ9.out Tryz.underlying27 rfl (by kernel_rfl)) rfl ?_
      exact ⟨_, rfl, by show k32.R 32 _ _ _ _ (l.take (cnt fw l x.f0) ++ x :: l.drop (cnt fw l x.f0)); rw [hpe.out, ← he.out]; exact Kd.R_mono (R_put3 hF.out.2.2.2.2.1 hF.out.2.2.1 (fun z hz => by rw [List.mem_singleton.1 hz]; decide) _ _ _) (fun _ _ => trivial), hF.out.2.2.2.2.2.grown hG9.out hF.out.2.2.2.2.2.size (fun k e => by injection e with e; omega)⟩
     | false =>
      have he := Lib.hid (acc_end hpl hAcc.out)
      have v6 := (blk_cell hF.out.2.2.2.1 1).trans rfl
      have v0_ := (blk_cell hF.out.2.1 0).trans rfl
      have v1_ := (blk_cell hF.out.2.1 1).trans rfl
      have v2_ := (blk_cell hF.out.2.1 2).trans rfl
      have v3_ := (blk_cell hF.out.2.1 3).trans rfl
      have v4_ := (blk_cell hF.out.2.1 4).trans rfl
      have v5_ := (blk_cell hF.out.2.1 5).trans rfl; go_wp2_with (first | ((with_reducible refine gate_builtin (b := .append) (xs := #[.tmp 64, .tmp 66]) rfl ?_); at_builtin; refine Kd.R_append k32 (w0 := w) w.heap.size rfl (.tmp 64) (.tmp 66) 24 32 (.agg #[.string ⟨#[]⟩, .int .i64 0, .int .i64 0, .int .i64 0, .int .i64 0, .string ⟨#[]⟩]) 64 rfl Tryz.underlying24 info32 rfl (by decide) (by omega) _ acc x [.string x.f0, .int .i64 x.f1, .int .i64 x.f2, .int .i64 x.f3, .int .i64 x.f4, .string x.f5] (fun k => k ≠ b3) (fun _ => False) rfl rfl ?aP (fun _ hk => hk.elim) ?aF ?aO ?aB ?aS ?aL ?_; (case aP => exact k32_mkM _ _ _ _); (case aB => exact hF.out.2.2.2.2.2); (case aF => exact (fun k hk => by have := blk_lt hF.out.2.1; omega)); (case aO => exact hF.out.2.2.2.2.1); (case aS => exact hF.out.2.2.2.2.2.size); (case aL => omega); intro V1 w5 ho hb hg hat; obtain ⟨A6, c6_, rfl⟩ := Kd.R_slice ho; have hF5 := Aside0.mk (hF.out.app ho hb hg n2.out n3.out n4.out q6.out); have x6 := (hg.block _ (blk_lt hF.out.2.2.2.1) (Kd.R_ne hF.out.2.2.2.2.1 hF.out.2.2.2.1 (by decide))).trans hF.out.2.2.2.1; have y6 := blk_frozen x6 1; have x6 := (blk_cell x6 1).trans rfl; rw [show (acc ++ [x]).length = acc.length + 1 by rw [List.length_append, List.length_singleton]] at hF5; have x0 := (blk_cell hF5.out.2.2.2.1 0).trans rfl; have x1 := (blk_cell hF5.out.2.2.2.1 1).trans rfl; have x2 := (blk_cell hF5.out.2.2.2.1 2).trans rfl; have z0 := (blk_cell hF5.out.2.2.1 0).trans rfl; have y0 := blk_frozen hF5.out.2.2.1 0; have z1 := (blk_cell hF5.out.2.2.1 1).trans rfl; have y1 := blk_frozen hF5.out.2.2.1 1; have z2 := (blk_cell hF5.out.2.2.1 2).trans rfl; have y2 := blk_frozen hF5.out.2.2.1 2; obtain ⟨hZ9, hG9⟩ := put3 (.int .i64 e) (.slice A6 (acc.length + 1) c6_) (.slice B q d) hF5.out.2.2.1; replace hZ9 := Lib.hid hZ9; replace hG9 := Lib.hid hG9))
      refine bodyPost_ret (results_ct rfl _ _ b4 27 _ (0, 0) _ rfl hZ9.out Tryz.underlying27 rfl (by kernel_rfl)) rfl ?_
      exact ⟨_, rfl, by show k32.R 32 _ _ _ _ (l.take (cnt fw l x.f0) ++ x :: l.drop (cnt fw l x.f0)); rw [hpe.out, ← he.out]; exact Kd.R_mono (R_put3 hF5.out.2.2.2.2.1 hF5.out.2.2.1 (fun z hz => by rw [List.mem_singleton.1 hz]; decide) _ _ _) (fun _ _ => trivial), hF5.out.2.2.2.2.2.grown hG9.out hF5.out.2.2.2.2.2.size (fun k e => by injection e with e; omega)⟩
end Go.Proofs.YtldlkbjbfgieeaaGreatDoor.SmW
namespace Go.Proofs.YtldlkbjbfgieeaaGreatDoor.SmN
set_option linter.unusedVariables false
set_option linter.unusedSimpArgs false
open Go.RowKit Go.Proofs.YtldlkbjbfgieeaaGreatDoorW.PrintWords Go.Proofs.YtldlkbjbfgieeaaGreatDoorW.PrintLast Mo Q Rw Cb Rq Ch Ap Go.Proofs.YtldlkbjbfgieeaaGreatDoor.St Rx Ft
open Go.Proofs.YtldlkbjbfgieeaaGreatDoor.Ri (stV)
attribute [local go_sem high] Go.Proofs.YtldlkbjbfgieeaaGreatDoor.Sl.gtr_less Go.Proofs.YtldlkbjbfgieeaaGreatDoor.Sl.leq_less
abbrev fw (x : N) : ByteArray := x.f0
abbrev xC (x : N) : Obj := .cells #[.string x.f0, .int .i64 x.f1, .int .i64 x.f2, .string x.f3, .bool x.f4] 34
/-- between the rounds -/
def Sb (w w' : World) (b2 b3 b4 b6 : Nat) (e : Int) (A B : Option Addr) (n c m d : Nat) (x : N) (V : Value) (acc : List N) : Prop :=
 w'.heap[b2]? = some (.cells #[.int .i64 e, .slice A n c, .slice B m d] 27 (0, 0)) ∧ w'.heap[b3]? = some (.cells #[.string x.f0, .int .i64 x.f1, .int .i64 x.f2, .string x.f3, .bool x.f4] 34 (0, 0)) ∧ w'.heap[b4]? = some (.cells #[.int .i64 0, .slice none 0 0, .slice none 0 0] 27 (0, 0)) ∧ w'.heap[b6]? = some (.cells #[.int .i64 e, .slice A n c, V] 27 (0, 0)) ∧ k34.R 34 w' w.heap.size (fun k => k ≠ b3) V acc ∧ Below w.heap.size w w'
theorem Sb.below {w w' w2 : World} {b2 b3 b4 b6 : Nat} {e : Int} {A B : Option Addr} {n c m d : Nat} {x : N} {V : Value} {acc : List N} (h : Sb w w' b2 b3 b4 b6 e A B n c m d x V acc) (hb : Below w'.heap.size w' w2) : Sb w w2 b2 b3 b4 b6 e A B n c m d x V acc :=
 ⟨blk_below h.1 hb, blk_below h.2.1 hb, blk_below h.2.2.1 hb, blk_below h.2.2.2.1 hb, Kd.R_below h.2.2.2.2.1 hb, below_then h.2.2.2.2.2 h.2.2.2.2.2.size hb⟩
theorem Sb.app {w w' w1 : World} {b2 b3 b4 b6 : Nat} {e : Int} {A B : Option Addr} {n c m d : Nat} {x : N} {V V1 : Value} {acc acc1 : List N} (h : Sb w w' b2 b3 b4 b6 e A B n c m d x V acc) (ho : k34.R 34 w1 w.heap.size (fun k => k ≠ b3) V1 acc1) (hb : Below w.heap.size w w1) (hg : w'.grownBy w1 V.ownBlock) (n2 : b2 ≠ b6) (n3 : b3 ≠ b6) (n4 : b4 ≠ b6) (hge : w.heap.size ≤ b6) :
 Sb w (w1.setCell ⟨b6, 2, none⟩ V1) b2 b3 b4 b6 e A B n c m d x V1 acc1 := by
 have hR := h.2.2.2.2.1
 have h2 := (hg.block _ (blk_lt h.1) (Kd.R_ne hR h.1 (by decide))).trans h.1
 have h3 := (hg.block _ (blk_lt h.2.1) (fun q => (hR.1 b3 q.symm) rfl)).trans h.2.1
 have h4 := (hg.block _ (blk_lt h.2.2.1) (Kd.R_ne hR h.2.2.1 (by decide))).trans h.2.2.1
 have h6 := (hg.block _ (blk_lt h.2.2.2.1) (Kd.R_ne hR h.2.2.2.1 (by decide))).trans h.2.2.2.1
 exact ⟨blk_far (p := ⟨b6, 2, none⟩) h2 n2 V1, blk_far (p := ⟨b6, 2, none⟩) h3 n3 V1, blk_far (p := ⟨b6, 2, none⟩) h4 n4 V1, blk_put h6 2 V1 rfl, Kd.R_set ho h6 (fun q hq => by rw [List.mem_singleton.1 hq]; decide) 2 V1, hb.setCell (p := ⟨b6, 2, none⟩) hge V1⟩
theorem lo_of {α : Type} {P : α → Prop} {z : α} {A B : List α} (h : ∀ a ∈ A, P a) {j : Nat} (hj : j < A.length) : P ((A ++ B).getD j z) := by
 rw [List.getD_eq_getElem?_getD, List.getElem?_append_left hj, List.getElem?_eq_getElem hj]
 exact h _ (List.getElem_mem _)
theorem hi_of {α : Type} {P : α → Prop} {z : α} {A B : List α} (h : ∀ a ∈ B, P a) {j : Nat} (hj : A.length ≤ j) (hl : j < (A ++ B).length) : P ((A ++ B).getD j z) := by
 rw [List.length_append] at hl
 rw [List.getD_eq_getElem?_getD, List.getElem?_append_right hj, List.getElem?_eq_getElem (by omega)]
 exact h _ (List.getElem_mem _)
/-- what has been laid -/
def Acc (l : List N) (x : N) (p : Nat) (pt : Bool) (i : Nat) (acc : List N) : Prop := if pt = true then p < i ∧ acc = l.take p ++ x :: (l.drop p).take (i - p) else i ≤ p ∧ acc = l.take i
theorem Acc.len {l : List N} {x : N} {p i : Nat} {pt : Bool} {acc : List N} (h : Acc l x p pt i acc) : acc.length ≤ i + 1 := by
 unfold Acc at h
 cases pt with
 | true => rw [if_pos rfl] at h; rw [h.2, List.length_append, List.length_cons, List.length_take, List.length_take]; omega
 | false => rw [if_neg Bool.false_ne_true] at h; rw [h.2, List.length_take]; omega
theorem sS {W0 : World} {b2 b6 : Nat} {e : Int} {A B : Option Addr} {n c m d : Nat} {V : Value} {ad : Addr} {l : List N} {i : Nat} (h2 : W0.heap[b2]? = some (.cells #[.int .i64 e, .slice A n c, .slice B m d] 27 (0, 0))) (h6 : W0.heap[b6]? = some (.cells #[.int .i64 e, .slice A n c, V] 27 (0, 0))) (hC : Kd.C k34 W0 (some ad) l.length l) (hi : i < l.length) (hA : B = some ad) (hn : m = l.length) {y : N} (hy : l.getD i z34 = y) :
 W0.cell? ⟨b6, 2, none⟩ = some V ∧ W0.cell? ⟨b2, 2, none⟩ = some (.slice (some ad) l.length d) ∧ W0.cell? (ad.add (i * 5)) = some (.string y.f0) ∧ W0.cell? ⟨(ad.add (i * 5)).block, (ad.add (i * 5)).off + 1, none⟩ = some (.int .i64 y.f1) ∧ W0.cell? ⟨(ad.add (i * 5)).block, (ad.add (i * 5)).off + 2, none⟩ = some (.int .i64 y.f2) ∧ W0.cell? ⟨(ad.add (i * 5)).block, (ad.add (i * 5)).off + 3, none⟩ = some (.string y.f3) ∧ W0.cell? ⟨(ad.add (i * 5)).block, (ad.add (i * 5)).off + 4, none⟩ = some (.bool y.f4) := by
 subst hA
 subst hn
 subst hy
 obtain ⟨ad', eA, c0, c1, c2, c3, c4⟩ := at_T34 hC (i : Int) (by omega) (by omega)
 cases eA
 rw [rdN, Int.toNat_natCast] at c0
 rw [rdN, Int.toNat_natCast] at c1
 rw [rdN, Int.toNat_natCast] at c2
 rw [rdN, Int.toNat_natCast] at c3
 rw [rdN, Int.toNat_natCast] at c4
 exact ⟨(blk_cell h6 2).trans rfl, (blk_cell h2 2).trans rfl, c0, c1, c2, c3, c4⟩
theorem sS3 {w w' : World} {b2 b3 b4 b6 : Nat} {e : Int} {A B : Option Addr} {n c m d : Nat} {x : N} {V : Value} {acc : List N} {ad : Addr} {l : List N} {i : Nat} (h : Sb w w' b2 b3 b4 b6 e A (some ad) n c l.length d x V acc) (hC : Kd.C k34 w' (some ad) l.length l) (hi : i < l.length) {y : N} (hy : l.getD i z34 = y) :
 w'.cell? ⟨b3, 0, none⟩ = some (.string x.f0) ∧ w'.cell? ⟨b6, 2, none⟩ = some V ∧ w'.cell? ⟨b2, 2, none⟩ = some (.slice (some ad) l.length d) ∧ w'.cell? (ad.add (i * 5)) = some (.string y.f0) ∧ w'.cell? ⟨(ad.add (i * 5)).block, (ad.add (i * 5)).off + 1, none⟩ = some (.int .i64 y.f1) ∧ w'.cell? ⟨(ad.add (i * 5)).block, (ad.add (i * 5)).off + 2, none⟩ = some (.int .i64 y.f2) ∧ w'.cell? ⟨(ad.add (i * 5)).block, (ad.add (i * 5)).off + 3, none⟩ = some (.string y.f3) ∧ w'.cell? ⟨(ad.add (i * 5)).block, (ad.add (i * 5)).off + 4, none⟩ = some (.bool y.f4) :=
 ⟨(blk_cell h.2.1 0).trans rfl, sS h.1 h.2.2.2.1 hC hi rfl rfl hy⟩
theorem acc_le {l : List N} {x : N} {p i : Nat} {acc : List N} (h : Acc l x p false i acc) : i ≤ p := by unfold Acc at h; rw [if_neg Bool.false_ne_true] at h; exact h.1
theorem acc_take {l : List N} {x : N} {p i : Nat} {acc : List N} (h : Acc l x p false i acc) : i ≤ p ∧ acc = l.take i := by unfold Acc at h; rw [if_neg Bool.false_ne_true] at h; exact h
theorem take_next {l : List N} {i : Nat} (hi : i < l.length) : l.take (i + 1) = l.take i ++ [l.getD i z34] := by
 rw [List.take_add_one, List.getD_eq_getElem?_getD, List.getElem?_eq_getElem hi]; rfl
theorem acc_next {l : List N} {x : N} {p i : Nat} {pt : Bool} {acc : List N} (hi : i < l.length) (hp : pt = true ∨ ¬ i = p) (h : Acc l x p pt i acc) : Acc l x p pt (i + 1) (acc ++ [l.getD i z34]) := by
 unfold Acc at h ⊢
 cases pt with
 | true =>
  rw [if_pos rfl] at h ⊢
  refine ⟨by omega, ?_⟩
  rw [h.2, show i + 1 - p = (i - p) + 1 by omega, List.take_add_one, List.getElem?_drop, show p + (i - p) = i by omega, List.getD_eq_getElem?_getD, List.getElem?_eq_getElem hi, List.append_assoc]
  rfl
 | false =>
  rw [if_neg Bool.false_ne_true] at h ⊢
  have := hp.resolve_left Bool.false_ne_true
  exact ⟨by omega, by rw [h.2, take_next hi]⟩
theorem acc_hit {l : List N} {x : N} {p i : Nat} {acc : List N} (hi : i < l.length) (hp : i = p) (h : Acc l x p false i acc) : Acc l x p true (i + 1) (acc ++ [x] ++ [l.getD i z34]) := by
 subst hp
 rw [(acc_take h).2]
 unfold Acc
 rw [if_pos rfl]
 refine ⟨by omega, ?_⟩
 rw [show i + 1 - i = 0 + 1 by omega, List.take_add_one, List.getElem?_drop, Nat.add_zero, List.getD_eq_getElem?_getD, List.getElem?_eq_getElem hi, List.append_assoc]
 rfl
theorem acc_full {l : List N} {x : N} {p : Nat} {acc : List N} (hp : p ≤ l.length) (h : Acc l x p true l.length acc) : acc = l.take p ++ x :: l.drop p := by
 unfold Acc at h
 rw [if_pos rfl] at h
 rw [h.2, List.take_of_length_le (l := l.drop p) (by rw [List.length_drop]; exact Nat.le_refl _)]
theorem acc_end {l : List N} {x : N} {p : Nat} {acc : List N} (hp : p ≤ l.length) (h : Acc l x p false l.length acc) : acc ++ [x] = l.take p ++ x :: l.drop p := by
 obtain ⟨h1, h2⟩ := acc_take h
 obtain rfl : p = l.length := by omega
 rw [h2, List.drop_length]
set_option maxHeartbeats 8000000 in
set_option maxRecDepth 100000 in
theorem add_any (e : Int) (A B : Option Addr) (c d q : Nat) (l : List N) (x : N) (w : World) (hA : Kd.C k34 w B l.length l) (hs : Sorted fw l) (hl : l.length ≤ 1000) :
 Calls Tryz.prog 44 #[stV e A q c B l.length d, .agg #[.string x.f0, .int .i64 x.f1, .int .i64 x.f2, .string x.f3, .bool x.f4]] w fun e' w' => ∃ V, e' = .returned (.tuple #[.agg #[.int .i64 (if (PuN.putS l x).2 = 0 then e else 0), if (PuN.putS l x).2 = 0 then .slice A q c else .slice none 0 0, V], .int .i64 (PuN.putS l x).2]) ∧ k34.R 34 w' w.heap.size (fun _ => True) V (PuN.putS l x).1 ∧ Below w.heap.size w w' := by
 have hB := below_alloc (below_alloc (below_alloc (Below.refl w.heap.size w) (stC e A q c B l.length d)) (xC x)) stZ
 have h2 := blk_alloc (blk_alloc (blk_new w (stC e A q c B l.length d)) (xC x)) stZ
 have h3 := blk_alloc (blk_new (w.alloc (stC e A q c B l.length d)) (xC x)) stZ
 have hA0 := Aside0.mk hA
 have h4 := blk_new ((w.alloc (stC e A q c B l.length d)).alloc (xC x)) stZ
 obtain ⟨b2, hg⟩ : ∃ g, g = w.heap.size := ⟨_, rfl⟩
 obtain ⟨b3, ho⟩ : ∃ o, o = w.heap.size + 1 := ⟨_, rfl⟩
 obtain ⟨b4, hz⟩ : ∃ z, z = w.heap.size + 1 + 1 := ⟨_, rfl⟩
 have q4 : w.heap.size ≤ b4 := by omega
 rw [← hg] at h2
 rw [show (w.alloc (stC e A q c B l.length d)).heap.size = b3 by simp [ho]] at h3
 rw [show ((w.alloc (stC e A q c B l.length d)).alloc (xC x)).heap.size = b4 by simp [hz]] at h4
 have hg' := Lib.hid hg
 have ho' := Lib.hid ho
 have hz' := Lib.hid hz
 clear hg ho hz
 obtain ⟨r, hr⟩ : ∃ r, r = PuN.putS l x := ⟨_, rfl⟩
 rw [← hr]
 replace hr := Lib.hid hr
 go_enter Tryz.func44, Tryz.ntmps44
 go_wp2_with fail
 try simp only [Nat.add_assoc] at hz'
 rw [← hz'.out, ← ho'.out, ← hg'.out]
 revert hB; revert h2; revert h3; revert h4
 generalize ((w.alloc (stC e A q c B l.length d)).alloc (xC x)).alloc stZ = wa
 intro h4 h3 h2 hB
 have hcl := node_any e A B q c l.length d l x.f0 wa rfl (Kd.C_below hA hB) hs hl
 refine hcl.mono ?_; rintro e' w1 ⟨rfl, hb1⟩
 clear hcl
 replace h2 := blk_below h2 hb1
 replace h3 := blk_below h3 hb1
 replace h4 := blk_below h4 hb1
 replace hA := Kd.C_below (Kd.C_below hA hB) hb1
 replace hB := below_then hB hB.size hb1
 clear hb1
 have s0 := (blk_cell h2 0).trans rfl
 have s1 := (blk_cell h2 1).trans rfl
 have s2 := (blk_cell h2 2).trans rfl
 cases hh : hasG fw z34 l x.f0 with
 | true =>
  have hp : r = ([], 121) := hr.out.trans (if_pos hh)
  clear hr
  subst hp
  rw [show ix (fun x : N => x.f0) z34 l x.f0 = ((cnt fw l x.f0 : Nat) : Int) from if_pos hh]
  generalize cnt fw l x.f0 = p
  have d0 : decide ((0 : Int) ≤ (p : Int)) = true := decide_eq_true (by omega)
  have z0 := (blk_cell h4 0).trans rfl
  have z1 := (blk_cell h4 1).trans rfl
  have z2 := (blk_cell h4 2).trans rfl
  have y0 := blk_frozen h4 0
  have y1 := blk_frozen h4 1
  have y2 := blk_frozen h4 2
  obtain ⟨hZ9, hG9⟩ := put3 (.int .i64 0) (.slice none 0 0) (.slice none 0 0) h4
  replace hZ9 := Lib.hid hZ9
  replace hG9 := Lib.hid hG9
  go_wp2_with fail
  refine bodyPost_ret (results_ct rfl _ _ b4 27 _ (0, 0) _ rfl hZ9.out Tryz.underlying27 rfl (by kernel_rfl)) rfl ?_
  exact ⟨.slice none 0 0, rfl, Kd.R_nil _ _ _ _ _, hB.grown hG9.out hB.size (fun k e => by injection e with e; omega)⟩
 | false =>
  rw [show ix (fun x : N => x.f0) z34 l x.f0 = -1 from if_neg (by rw [show hasG (fun x : N => x.f0) z34 l x.f0 = false from hh]; exact Bool.false_ne_true)]
  by_cases h8 : 8 ≤ l.length
  ·have hp : r = ([], 123) := hr.out.trans ((if_neg (by rw [show FiN.has l x.f0 = false from hh]; exact Bool.false_ne_true)).trans (if_pos h8))
   clear hr
   subst hp
   have d8 : decide ((8 : Int) ≤ (l.length : Int)) = true := decide_eq_true (by omega)
   have z0 := (blk_cell h4 0).trans rfl
   have z1 := (blk_cell h4 1).trans rfl
   have z2 := (blk_cell h4 2).trans rfl
   have y0 := blk_frozen h4 0
   have y1 := blk_frozen h4 1
   have y2 := blk_frozen h4 2
   obtain ⟨hZ9, hG9⟩ := put3 (.int .i64 0) (.slice none 0 0) (.slice none 0 0) h4
   replace hZ9 := Lib.hid hZ9
   replace hG9 := Lib.hid hG9
   go_wp2_with fail
   refine bodyPost_ret (results_ct rfl _ _ b4 27 _ (0, 0) _ rfl hZ9.out Tryz.underlying27 rfl (by kernel_rfl)) rfl ?_
   exact ⟨.slice none 0 0, rfl, Kd.R_nil _ _ _ _ _, hB.grown hG9.out hB.size (fun k e => by injection e with e; omega)⟩
  ·have hp : r = (l.take (cnt fw l x.f0) ++ x :: l.drop (cnt fw l x.f0), 0) := hr.out.trans ((if_neg (by rw [show FiN.has l x.f0 = false from hh]; exact Bool.false_ne_true)).trans (if_neg h8))
   clear hr
   subst hp
   obtain ⟨_, Ah, Bh, e1, e2, e3, e4, _, _⟩ := has_no fw z34 hs hh
   have hlo : ∀ j, j < cnt fw l x.f0 → lt (l.getD j z34).f0 x.f0 = true := fun j hj => (by rw [e2] at hj; (conv => lhs; rw [e1]); exact lo_of (P := fun a : N => lt a.f0 x.f0 = true) e3 hj)
   have hhi : ∀ j, cnt fw l x.f0 ≤ j → j < l.length → lt x.f0 (l.getD j z34).f0 = true := fun j hj hl2 => (by rw [e2] at hj; rw [e1] at hl2; (conv => lhs; rw [e1]); exact hi_of (P := fun a : N => lt x.f0 a.f0 = true) e4 hj hl2)
   have hpl : cnt fw l x.f0 ≤ l.length := List.countP_le_length
   clear e1 e2 e3 e4 hh
   replace hlo := Aside0.mk hlo
   replace hhi := Aside0.mk hhi
   generalize hpe : cnt fw l x.f0 = p at *
   replace hpe := Lib.hid hpe
   have d8 : decide ((8 : Int) ≤ (l.length : Int)) = false := decide_eq_false (by omega)
   go_wp2_with fail
   have n2 := Lib.hid (Nat.ne_of_lt (blk_lt h2))
   have n3 := Lib.hid (Nat.ne_of_lt (blk_lt h3))
   have n4 := Lib.hid (Nat.ne_of_lt (blk_lt h4))
   have q6 := Lib.hid hB.size
   have hF := Aside0.mk (show Sb w (w1.alloc (stC e A q c none 0 0)) b2 b3 b4 w1.heap.size e A B q c l.length d x (.slice none 0 0) [] from ⟨blk_alloc h2 _, blk_alloc h3 _, blk_alloc h4 _, blk_new w1 _, Kd.R_nil _ _ _ _ _, below_alloc hB _⟩)
   have hA' := hA0
   clear h2 h3 h4 s0 s1 s2 hA hs d8
   replace hB := Aside0.mk hB
   generalize w1.alloc (stC e A q c none 0 0) = wb at *
   generalize w1.heap.size = b6 at *
   go_loopg [7, 8] l.length (fun kx v7 v8 wr => ∃ (pt : Bool) (i : Nat) (V : Value) (acc : List N), v7 = .bool pt ∧ v8 = .int .i64 (i : Int) ∧ i + kx = l.length ∧ acc.length ≤ i + 1 ∧ Aside0 (Acc l x p pt i acc) ∧ Aside0 (Sb w wr b2 b3 b4 b6 e A B q c l.length d x V acc))
   case atStart => exact ⟨false, 0, _, [], rfl, rfl, by omega, Nat.zero_le _, Aside0.mk (by unfold Acc; rw [if_neg Bool.false_ne_true]; exact ⟨Nat.zero_le _, rfl⟩), hF⟩
   case round =>
    clear hF
    obtain ⟨pt, i, V, acc, rfl, rfl, hik, hal, hAcc, hF⟩ := hrel
    have s1 := (blk_cell hF.out.1 2).trans rfl
    by_cases hi : i < l.length
    ·obtain ⟨k, rfl⟩ : ∃ k, gk = k + 1 := ⟨gk - 1, by omega⟩
     have d1 : decide ((i : Int) < (l.length : Int)) = true := decide_eq_true (by omega)
     obtain ⟨ad, eA, _⟩ := at_T34 hA0.out (i : Int) (by omega) (by omega)
     cases eA
     obtain ⟨y, hy⟩ : ∃ y, l.getD i z34 = y := ⟨_, rfl⟩
     replace hy := Lib.hid hy
     have pi : (0 ≤ (i : Int)) = True := eq_true (by omega)
     have qi : ((i : Int) < (l.length : Int)) = True := eq_true (by omega)
     go_wp2_with fail
     clear s1
     cases pt with
     | true =>
      refine start_ (n := 13) (S := fun w' => w'.cell? ⟨b3, 0, none⟩ = some (.string x.f0) ∧ w'.cell? ⟨b6, 2, none⟩ = some V ∧ w'.cell? ⟨b2, 2, none⟩ = some (.slice (some ad) l.length d) ∧ w'.cell? (ad.add (i * 5)) = some (.string y.f0) ∧ w'.cell? ⟨(ad.add (i * 5)).block, (ad.add (i * 5)).off + 1, none⟩ = some (.int .i64 y.f1) ∧ w'.cell? ⟨(ad.add (i * 5)).block, (ad.add (i * 5)).off + 2, none⟩ = some (.int .i64 y.f2) ∧ w'.cell? ⟨(ad.add (i * 5)).block, (ad.add (i * 5)).off + 3, none⟩ = some (.string y.f3) ∧ w'.cell? ⟨(ad.add (i * 5)).block, (ad.add (i * 5)).off + 4, none⟩ = some (.bool y.f4)) (ds := []) (bt 13 0) (by kernel_rfl) rfl (by kernel_rfl) ((sS3 (w' := wr) (B := none) (m := 0) hF.out (Kd.C_below hA0.out hF.out.2.2.2.2.2) hi hy.out)) (fun hHeld => ?_)
      replace hF := Aside0.mk (hF.out.below (below_drew (Below.refl _ _)))
      generalize wr.drew = wd at *
      refine py 0 32 (bt 13 1) rfl rfl (h := ?_)
      refine py 1 33 (bt 13 3) rfl rfl (h := ?_)
      refine py 2 34 (bt 13 7) rfl rfl (h := ?_)
      refine oy 3 35 (bt 13 15) rfl rfl (h := ?_)
      refine oy 4 36 (bt 13 31) rfl rfl (h := ?_)
      refine oy 5 37 (bt 13 63) rfl rfl (h := ?_)
      refine oy 6 38 (bt 13 127) rfl rfl (h := ?_)
      refine oy 7 39 (bt 13 255) rfl rfl (h := ?_)
      refine oy 8 40 (bt 13 511) rfl rfl (h := ?_)
      refine oy 9 41 (bt 13 1023) rfl rfl (h := ?_)
      refine oy 10 42 (bt 13 2047) rfl rfl (h := ?_)
      refine oy 11 43 (bt 13 4095) rfl rfl (h := ?_)
      refine py 12 44 (bt 13 8191) rfl rfl (h := ?_)
      refine done_ (by kernel_rfl) ?_
      go_wp2_with fail
      refine start_ (n := 11) (S := fun w' => w'.cell? ⟨b6, 2, none⟩ = some (V) ∧ w'.cell? ⟨b2, 2, none⟩ = some (.slice (some ad) l.length d) ∧ w'.cell? (ad.add (i * 5)) = some (.string y.f0) ∧ w'.cell? ⟨(ad.add (i * 5)).block, (ad.add (i * 5)).off + 1, none⟩ = some (.int .i64 y.f1) ∧ w'.cell? ⟨(ad.add (i * 5)).block, (ad.add (i * 5)).off + 2, none⟩ = some (.int .i64 y.f2) ∧ w'.cell? ⟨(ad.add (i * 5)).block, (ad.add (i * 5)).off + 3, none⟩ = some (.string y.f3) ∧ w'.cell? ⟨(ad.add (i * 5)).block, (ad.add (i * 5)).off + 4, none⟩ = some (.bool y.f4)) (ds := [10]) (bt 11 0) (by kernel_rfl) rfl (by kernel_rfl) (sS (W0 := wd) hF.out.1 hF.out.2.2.2.1 (Kd.C_below hA0.out hF.out.2.2.2.2.2) hi rfl rfl hy.out) (fun hHeld => ?_)
      replace hF := Aside0.mk (hF.out.below (below_drew (Below.refl _ _)))
      generalize wd.drew = wd at *
      refine py 0 51 (bt 11 1) rfl rfl (h := ?_)
      refine ty 1 52 (bt 11 3) rfl rfl hHeld (h := ?_)
      refine py 2 53 (bt 11 7) rfl rfl (h := ?_)
      refine ty 3 54 (bt 11 15) rfl rfl hHeld (h := ?_)
      refine py 4 55 (bt 11 31) rfl rfl (h := ?_)
      refine py 5 56 (bt 11 63) rfl rfl (h := ?_)
      refine ty 6 57 (bt 11 127) rfl rfl hHeld (h := ?_)
      refine oe 7 58 (bt 11 255) rfl rfl (fun K hK => ?_); refine puts_ (some 58) (by rfl) rfl (v := .slice (some ⟨wd.heap.size, 0, none⟩) 1 1) (w1 := wd.alloc (.cells #[.string y.f0, .int .i64 y.f1, .int .i64 y.f2, .string y.f3, .bool y.f4] 34)) (by first | (go_simp; done) | (go_simp; rfl)) ?_; refine hK.out _ _ (sS (blk_alloc hF.out.1 _) (blk_alloc hF.out.2.2.2.1 _) (Kd.C_below hA0.out (below_alloc hF.out.2.2.2.2.2 _)) hi rfl rfl hy.out) (fun hHeld => ?_); clear hK K; refine ny (h := ?_)
      refine oe 8 59 (bt 11 511) rfl rfl (fun K hK => ?_); refine Kd.R_append_step k34 (w0 := w) w.heap.size (by rfl) (.tmp 52) (.tmp 58) 25 34 (.agg #[.string ⟨#[]⟩, .int .i64 0, .int .i64 0, .string ⟨#[]⟩, .bool false]) 56 rfl Tryz.underlying25 info34 rfl (by decide) (by omega) _ acc y [.string y.f0, .int .i64 y.f1, .int .i64 y.f2, .string y.f3, .bool y.f4] (fun k => k ≠ b3) (fun _ => False) rfl rfl ?aP (fun _ hk => hk.elim) ?aF ?aO ?aB ?aS ?aL ?_; (case aP => exact k34_mkM _ _ _ _); (case aB => exact hF.out.2.2.2.2.2); (case aF => exact (fun k hk => by have := blk_lt hF.out.2.1; omega)); (case aO => exact hF.out.2.2.2.2.1); (case aS => exact hF.out.2.2.2.2.2.size); (case aL => rw [show acc.length + 1 = acc.length + 1 by simp]; omega); intro V1 w5 ho hb hg hat
      obtain ⟨A5, c5_, rfl⟩ := Kd.R_slice ho
      have x2 := (hg.block _ (blk_lt hF.out.1) (Kd.R_ne hF.out.2.2.2.2.1 hF.out.1 (by decide))).trans hF.out.1
      have x6 := (hg.block _ (blk_lt hF.out.2.2.2.1) (Kd.R_ne hF.out.2.2.2.2.1 hF.out.2.2.2.1 (by decide))).trans hF.out.2.2.2.1
      refine hK.out _ _ (sS x2 x6 (Kd.C_below hA0.out hb) hi rfl rfl hy.out) (fun hHeld => ?_); clear hK K; refine ny (h := ?_)
      refine py 9 60 (bt 11 1023) rfl rfl (h := ?_)
      refine last_ (i := 10) (N := none) (bt 11 2047) rfl rfl (by kernel_rfl) (by decide) (fun K hK => ?_)
      have y6 := blk_frozen x6 2
      have z6 := (blk_cell x6 2).trans rfl
      refine sk ?_
      refine hK.out _ _ ?_
      clear hK K
      refine done_ (by kernel_rfl) ?_
      have hF9 := Aside0.mk (hF.out.app ho hb hg n2.out n3.out n4.out q6.out)
      rw [show (acc ++ [y]).length = acc.length + 1 by simp] at hF9
      clear x2 x6 y6 z6 ho hb hg hat hHeld hF
      go_wp2_with fail
      go_roundg k
      case measure => omega
      case rel => exact ⟨true, i + 1, _, _, rfl, by first | rfl | (simp; done), by omega, by rw [List.length_append, List.length_singleton]; omega, Aside0.mk (hy.out ▸ acc_next hi (Or.inl rfl) hAcc.out), hF9⟩
     | false =>
      by_cases hip : i = p
      ·have hl1 := Aside0.mk (show Op.bytesLess x.f0.toList y.f0.toList = true from by rw [← hy.out]; exact hhi.out i (by omega) hi)
       have hl2 := hl1.out
       have hip' := Lib.hid hip
       clear hip
       refine start_ (n := 13) (S := fun w' => w'.cell? ⟨b3, 0, none⟩ = some (.string x.f0) ∧ w'.cell? ⟨b6, 2, none⟩ = some V ∧ w'.cell? ⟨b2, 2, none⟩ = some (.slice (some ad) l.length d) ∧ w'.cell? (ad.add (i * 5)) = some (.string y.f0) ∧ w'.cell? ⟨(ad.add (i * 5)).block, (ad.add (i * 5)).off + 1, none⟩ = some (.int .i64 y.f1) ∧ w'.cell? ⟨(ad.add (i * 5)).block, (ad.add (i * 5)).off + 2, none⟩ = some (.int .i64 y.f2) ∧ w'.cell? ⟨(ad.add (i * 5)).block, (ad.add (i * 5)).off + 3, none⟩ = some (.string y.f3) ∧ w'.cell? ⟨(ad.add (i * 5)).block, (ad.add (i * 5)).off + 4, none⟩ = some (.bool y.f4)) (ds := []) (bt 13 0) (by kernel_rfl) rfl (by kernel_rfl) ((sS3 (w' := wr) (B := none) (m := 0) hF.out (Kd.C_below hA0.out hF.out.2.2.2.2.2) hi hy.out)) (fun hHeld => ?_)
       replace hF := Aside0.mk (hF.out.below (below_drew (Below.refl _ _)))
       generalize wr.drew = wd at *
       refine py 0 32 (bt 13 1) rfl rfl (h := ?_)
       refine py 1 33 (bt 13 3) rfl rfl (h := ?_)
       refine py 2 34 (bt 13 7) rfl rfl (h := ?_)
       refine py 3 35 (bt 13 15) rfl rfl (h := ?_)
       refine ty 4 36 (bt 13 31) rfl rfl hHeld (h := ?_)
       refine py 5 37 (bt 13 63) rfl rfl (h := ?_)
       refine py 6 38 (bt 13 127) rfl rfl (h := ?_)
       refine py 7 39 (bt 13 255) rfl rfl (h := ?_)
       refine ty 8 40 (bt 13 511) rfl rfl hHeld (h := ?_)
       refine py 9 41 (bt 13 1023) rfl rfl (h := ?_)
       refine ty 10 42 (bt 13 2047) rfl rfl hHeld (h := ?_)
       refine py 11 43 (bt 13 4095) rfl rfl (h := ?_)
       refine py 12 44 (bt 13 8191) rfl rfl (h := ?_)
       refine done_ (by kernel_rfl) ?_
       have v6 := (blk_cell hF.out.2.2.2.1 2).trans rfl
       have v0_ := (blk_cell hF.out.2.1 0).trans rfl
       have v1_ := (blk_cell hF.out.2.1 1).trans rfl
       have v2_ := (blk_cell hF.out.2.1 2).trans rfl
       have v3_ := (blk_cell hF.out.2.1 3).trans rfl
       have v4_ := (blk_cell hF.out.2.1 4).trans rfl
       go_wp2_with (first | ((with_reducible refine gate_builtin (b := .append) (xs := #[.tmp 46, .tmp 48]) rfl ?_); at_builtin; refine Kd.R_append k34 (w0 := w) w.heap.size rfl (.tmp 46) (.tmp 48) 25 34 (.agg #[.string ⟨#[]⟩, .int .i64 0, .int .i64 0, .string ⟨#[]⟩, .bool false]) 56 rfl Tryz.underlying25 info34 rfl (by decide) (by omega) _ acc x [.string x.f0, .int .i64 x.f1, .int .i64 x.f2, .string x.f3, .bool x.f4] (fun k => k ≠ b3) (fun _ => False) rfl rfl ?aP (fun _ hk => hk.elim) ?aF ?aO ?aB ?aS ?aL ?_; (case aP => exact k34_mkM _ _ _ _); (case aB => exact hF.out.2.2.2.2.2); (case aF => exact (fun k hk => by have := blk_lt hF.out.2.1; omega)); (case aO => exact hF.out.2.2.2.2.1); (case aS => exact hF.out.2.2.2.2.2.size); (case aL => omega); intro V1 w5 ho hb hg hat; obtain ⟨A6, c6_, rfl⟩ := Kd.R_slice ho; have hF5 := Aside0.mk (hF.out.app ho hb hg n2.out n3.out n4.out q6.out); have x6 := (hg.block _ (blk_lt hF.out.2.2.2.1) (Kd.R_ne hF.out.2.2.2.2.1 hF.out.2.2.2.1 (by decide))).trans hF.out.2.2.2.1; have y6 := blk_frozen x6 2; have x6 := (blk_cell x6 2).trans rfl))
       replace hF := hF5
       rw [show (acc ++ [x]).length = acc.length + 1 by rw [List.length_append, List.length_singleton]] at hF
       clear hF5
       refine start_ (n := 11) (S := fun w' => w'.cell? ⟨b6, 2, none⟩ = some (.slice A6 (acc.length + 1) c6_) ∧ w'.cell? ⟨b2, 2, none⟩ = some (.slice (some ad) l.length d) ∧ w'.cell? (ad.add (i * 5)) = some (.string y.f0) ∧ w'.cell? ⟨(ad.add (i * 5)).block, (ad.add (i * 5)).off + 1, none⟩ = some (.int .i64 y.f1) ∧ w'.cell? ⟨(ad.add (i * 5)).block, (ad.add (i * 5)).off + 2, none⟩ = some (.int .i64 y.f2) ∧ w'.cell? ⟨(ad.add (i * 5)).block, (ad.add (i * 5)).off + 3, none⟩ = some (.string y.f3) ∧ w'.cell? ⟨(ad.add (i * 5)).block, (ad.add (i * 5)).off + 4, none⟩ = some (.bool y.f4)) (ds := [10]) (bt 11 0) (by kernel_rfl) rfl (by kernel_rfl) (sS (W0 := (w5.setCell ⟨b6, 2, none⟩ (.slice A6 (acc.length + 1) c6_))) hF.out.1 hF.out.2.2.2.1 (Kd.C_below hA0.out hF.out.2.2.2.2.2) hi rfl rfl hy.out) (fun hHeld => ?_)
       replace hF := Aside0.mk (hF.out.below (below_drew (Below.refl _ _)))
       generalize (w5.setCell ⟨b6, 2, none⟩ (.slice A6 (acc.length + 1) c6_)).drew = wd at *
       refine py 0 51 (bt 11 1) rfl rfl (h := ?_)
       refine ty 1 52 (bt 11 3) rfl rfl hHeld (h := ?_)
       refine py 2 53 (bt 11 7) rfl rfl (h := ?_)
       refine ty 3 54 (bt 11 15) rfl rfl hHeld (h := ?_)
       refine py 4 55 (bt 11 31) rfl rfl (h := ?_)
       refine py 5 56 (bt 11 63) rfl rfl (h := ?_)
       refine ty 6 57 (bt 11 127) rfl rfl hHeld (h := ?_)
       refine oe 7 58 (bt 11 255) rfl rfl (fun K hK => ?_); refine puts_ (some 58) (by rfl) rfl (v := .slice (some ⟨wd.heap.size, 0, none⟩) 1 1) (w1 := wd.alloc (.cells #[.string y.f0, .int .i64 y.f1, .int .i64 y.f2, .string y.f3, .bool y.f4] 34)) (by first | (go_simp; done) | (go_simp; rfl)) ?_; refine hK.out _ _ (sS (blk_alloc hF.out.1 _) (blk_alloc hF.out.2.2.2.1 _) (Kd.C_below hA0.out (below_alloc hF.out.2.2.2.2.2 _)) hi rfl rfl hy.out) (fun hHeld => ?_); clear hK K; refine ny (h := ?_)
       refine oe 8 59 (bt 11 511) rfl rfl (fun K hK => ?_); refine Kd.R_append_step k34 (w0 := w) w.heap.size (by rfl) (.tmp 52) (.tmp 58) 25 34 (.agg #[.string ⟨#[]⟩, .int .i64 0, .int .i64 0, .string ⟨#[]⟩, .bool false]) 56 rfl Tryz.underlying25 info34 rfl (by decide) (by omega) _ (acc ++ [x]) y [.string y.f0, .int .i64 y.f1, .int .i64 y.f2, .string y.f3, .bool y.f4] (fun k => k ≠ b3) (fun _ => False) rfl rfl ?aP (fun _ hk => hk.elim) ?aF ?aO ?aB ?aS ?aL ?_; (case aP => exact k34_mkM _ _ _ _); (case aB => exact hF.out.2.2.2.2.2); (case aF => exact (fun k hk => by have := blk_lt hF.out.2.1; omega)); (case aO => exact hF.out.2.2.2.2.1); (case aS => exact hF.out.2.2.2.2.2.size); (case aL => rw [show (acc ++ [x]).length + 1 = acc.length + 2 by simp]; omega); intro V1 w5 ho hb hg hat
       obtain ⟨A5, c5_, rfl⟩ := Kd.R_slice ho
       have x2 := (hg.block _ (blk_lt hF.out.1) (Kd.R_ne hF.out.2.2.2.2.1 hF.out.1 (by decide))).trans hF.out.1
       have x6 := (hg.block _ (blk_lt hF.out.2.2.2.1) (Kd.R_ne hF.out.2.2.2.2.1 hF.out.2.2.2.1 (by decide))).trans hF.out.2.2.2.1
       refine hK.out _ _ (sS x2 x6 (Kd.C_below hA0.out hb) hi rfl rfl hy.out) (fun hHeld => ?_); clear hK K; refine ny (h := ?_)
       refine py 9 60 (bt 11 1023) rfl rfl (h := ?_)
       refine last_ (i := 10) (N := none) (bt 11 2047) rfl rfl (by kernel_rfl) (by decide) (fun K hK => ?_)
       have y6 := blk_frozen x6 2
       have z6 := (blk_cell x6 2).trans rfl
       refine sk ?_
       refine hK.out _ _ ?_
       clear hK K
       refine done_ (by kernel_rfl) ?_
       have hF9 := Aside0.mk (hF.out.app ho hb hg n2.out n3.out n4.out q6.out)
       rw [show ((acc ++ [x]) ++ [y]).length = acc.length + 2 by simp] at hF9
       clear x2 x6 y6 z6 ho hb hg hat hHeld hF
       go_wp2_with fail
       go_roundg k
       case measure => omega
       case rel => exact ⟨true, i + 1, _, _, rfl, by first | rfl | (simp; done), by omega, by rw [List.length_append, List.length_append, List.length_singleton, List.length_singleton, (acc_take hAcc.out).2, List.length_take]; omega, Aside0.mk (hy.out ▸ acc_hit hi hip'.out hAcc.out), hF9⟩
      ·have hl2 : Op.bytesLess x.f0.toList y.f0.toList = false := by rw [← hy.out]; exact lt_asymm (hlo.out i (by have := acc_le hAcc.out; omega))
       have hip' := Lib.hid hip
       clear hip
       refine start_ (n := 13) (S := fun w' => w'.cell? ⟨b3, 0, none⟩ = some (.string x.f0) ∧ w'.cell? ⟨b6, 2, none⟩ = some V ∧ w'.cell? ⟨b2, 2, none⟩ = some (.slice (some ad) l.length d) ∧ w'.cell? (ad.add (i * 5)) = some (.string y.f0) ∧ w'.cell? ⟨(ad.add (i * 5)).block, (ad.add (i * 5)).off + 1, none⟩ = some (.int .i64 y.f1) ∧ w'.cell? ⟨(ad.add (i * 5)).block, (ad.add (i * 5)).off + 2, none⟩ = some (.int .i64 y.f2) ∧ w'.cell? ⟨(ad.add (i * 5)).block, (ad.add (i * 5)).off + 3, none⟩ = some (.string y.f3) ∧ w'.cell? ⟨(ad.add (i * 5)).block, (ad.add (i * 5)).off + 4, none⟩ = some (.bool y.f4)) (ds := []) (bt 13 0) (by kernel_rfl) rfl (by kernel_rfl) ((sS3 (w' := wr) (B := none) (m := 0) hF.out (Kd.C_below hA0.out hF.out.2.2.2.2.2) hi hy.out)) (fun hHeld => ?_)
       replace hF := Aside0.mk (hF.out.below (below_drew (Below.refl _ _)))
       generalize wr.drew = wd at *
       refine py 0 32 (bt 13 1) rfl rfl (h := ?_)
       refine py 1 33 (bt 13 3) rfl rfl (h := ?_)
       refine py 2 34 (bt 13 7) rfl rfl (h := ?_)
       refine py 3 35 (bt 13 15) rfl rfl (h := ?_)
       refine ty 4 36 (bt 13 31) rfl rfl hHeld (h := ?_)
       refine py 5 37 (bt 13 63) rfl rfl (h := ?_)
       refine py 6 38 (bt 13 127) rfl rfl (h := ?_)
       refine py 7 39 (bt 13 255) rfl rfl (h := ?_)
       refine ty 8 40 (bt 13 511) rfl rfl hHeld (h := ?_)
       refine py 9 41 (bt 13 1023) rfl rfl (h := ?_)
       refine ty 10 42 (bt 13 2047) rfl rfl hHeld (h := ?_)
       refine py 11 43 (bt 13 4095) rfl rfl (h := ?_)
       refine py 12 44 (bt 13 8191) rfl rfl (h := ?_)
       refine done_ (by kernel_rfl) ?_
       go_wp2_with fail
       refine start_ (n := 11) (S := fun w' => w'.cell? ⟨b6, 2, none⟩ = some (V) ∧ w'.cell? ⟨b2, 2, none⟩ = some (.slice (some ad) l.length d) ∧ w'.cell? (ad.add (i * 5)) = some (.string y.f0) ∧ w'.cell? ⟨(ad.add (i * 5)).block, (ad.add (i * 5)).off + 1, none⟩ = some (.int .i64 y.f1) ∧ w'.cell? ⟨(ad.add (i * 5)).block, (ad.add (i * 5)).off + 2, none⟩ = some (.int .i64 y.f2) ∧ w'.cell? ⟨(ad.add (i * 5)).block, (ad.add (i * 5)).off + 3, none⟩ = some (.string y.f3) ∧ w'.cell? ⟨(ad.add (i * 5)).block, (ad.add (i * 5)).off + 4, none⟩ = some (.bool y.f4)) (ds := [10]) (bt 11 0) (by kernel_rfl) rfl (by kernel_rfl) (sS (W0 := wd) hF.out.1 hF.out.2.2.2.1 (Kd.C_below hA0.out hF.out.2.2.2.2.2) hi rfl rfl hy.out) (fun hHeld => ?_)
       replace hF := Aside0.mk (hF.out.below (below_drew (Below.refl _ _)))
       generalize wd.drew = wd at *
       refine py 0 51 (bt 11 1) rfl rfl (h := ?_)
       refine ty 1 52 (bt 11 3) rfl rfl hHeld (h := ?_)
       refine py 2 53 (bt 11 7) rfl rfl (h := ?_)
       refine ty 3 54 (bt 11 15) rfl rfl hHeld (h := ?_)
       refine py 4 55 (bt 11 31) rfl rfl (h := ?_)
       refine py 5 56 (bt 11 63) rfl rfl (h := ?_)
       refine ty 6 57 (bt 11 127) rfl rfl hHeld (h := ?_)
       refine oe 7 58 (bt 11 255) rfl rfl (fun K hK => ?_); refine puts_ (some 58) (by rfl) rfl (v := .slice (some ⟨wd.heap.size, 0, none⟩) 1 1) (w1 := wd.alloc (.cells #[.string y.f0, .int .i64 y.f1, .int .i64 y.f2, .string y.f3, .bool y.f4] 34)) (by first | (go_simp; done) | (go_simp; rfl)) ?_; refine hK.out _ _ (sS (blk_alloc hF.out.1 _) (blk_alloc hF.out.2.2.2.1 _) (Kd.C_below hA0.out (below_alloc hF.out.2.2.2.2.2 _)) hi rfl rfl hy.out) (fun hHeld => ?_); clear hK K; refine ny (h := ?_)
       refine oe 8 59 (bt 11 511) rfl rfl (fun K hK => ?_); refine Kd.R_append_step k34 (w0 := w) w.heap.size (by rfl) (.tmp 52) (.tmp 58) 25 34 (.agg #[.string ⟨#[]⟩, .int .i64 0, .int .i64 0, .string ⟨#[]⟩, .bool false]) 56 rfl Tryz.underlying25 info34 rfl (by decide) (by omega) _ acc y [.string y.f0, .int .i64 y.f1, .int .i64 y.f2, .string y.f3, .bool y.f4] (fun k => k ≠ b3) (fun _ => False) rfl rfl ?aP (fun _ hk => hk.elim) ?aF ?aO ?aB ?aS ?aL ?_; (case aP => exact k34_mkM _ _ _ _); (case aB => exact hF.out.2.2.2.2.2); (case aF => exact (fun k hk => by have := blk_lt hF.out.2.1; omega)); (case aO => exact hF.out.2.2.2.2.1); (case aS => exact hF.out.2.2.2.2.2.size); (case aL => rw [show acc.length + 1 = acc.length + 1 by simp]; omega); intro V1 w5 ho hb hg hat
       obtain ⟨A5, c5_, rfl⟩ := Kd.R_slice ho
       have x2 := (hg.block _ (blk_lt hF.out.1) (Kd.R_ne hF.out.2.2.2.2.1 hF.out.1 (by decide))).trans hF.out.1
       have x6 := (hg.block _ (blk_lt hF.out.2.2.2.1) (Kd.R_ne hF.out.2.2.2.2.1 hF.out.2.2.2.1 (by decide))).trans hF.out.2.2.2.1
       refine hK.out _ _ (sS x2 x6 (Kd.C_below hA0.out hb) hi rfl rfl hy.out) (fun hHeld => ?_); clear hK K; refine ny (h := ?_)
       refine py 9 60 (bt 11 1023) rfl rfl (h := ?_)
       refine last_ (i := 10) (N := none) (bt 11 2047) rfl rfl (by kernel_rfl) (by decide) (fun K hK => ?_)
       have y6 := blk_frozen x6 2
       have z6 := (blk_cell x6 2).trans rfl
       refine sk ?_
       refine hK.out _ _ ?_
       clear hK K
       refine done_ (by kernel_rfl) ?_
       have hF9 := Aside0.mk (hF.out.app ho hb hg n2.out n3.out n4.out q6.out)
       rw [show (acc ++ [y]).length = acc.length + 1 by simp] at hF9
       clear x2 x6 y6 z6 ho hb hg hat hHeld hF
       go_wp2_with fail
       go_roundg k
       case measure => omega
       case rel => exact ⟨false, i + 1, _, _, rfl, by first | rfl | (simp; done), by omega, by rw [List.length_append, List.length_singleton]; omega, Aside0.mk (hy.out ▸ acc_next hi (Or.inr hip'.out) hAcc.out), hF9⟩
    ·obtain rfl : i = l.length := by omega
     have d1 : decide ((l.length : Int) < (l.length : Int)) = false := decide_eq_false (by omega)
     cases pt with
     | true =>
      have he := Lib.hid (acc_full hpl hAcc.out)
      obtain ⟨A6, c6_, rfl⟩ := Kd.R_slice hF.out.2.2.2.2.1
      have x0 := (blk_cell hF.out.2.2.2.1 0).trans rfl
      have x1 := (blk_cell hF.out.2.2.2.1 1).trans rfl
      have x2 := (blk_cell hF.out.2.2.2.1 2).trans rfl
      have z0 := (blk_cell hF.out.2.2.1 0).trans rfl
      have y0 := blk_frozen hF.out.2.2.1 0
      have z1 := (blk_cell hF.out.2.2.1 1).trans rfl
      have y1 := blk_frozen hF.out.2.2.1 1
      have z2 := (blk_cell hF.out.2.2.1 2).trans rfl
      have y2 := blk_frozen hF.out.2.2.1 2
      obtain ⟨hZ9, hG9⟩ := put3 (.int .i64 e) (.slice A q c) (.slice A6 acc.length c6_) hF.out.2.2.1
      replace hZ9 := Lib.hid hZ9
      replace hG9 := Lib.hid hG9
      go_wp2_with fail
      refine bodyPost_ret (results_ct rfl _ _ b4 27 _ (0, 0) _ rfl hZ9.out Tryz.underlying27 rfl (by kernel_rfl)) rfl ?_
      exact ⟨_, rfl, by show k34.R 34 _ _ _ _ (l.take (cnt fw l x.f0) ++ x :: l.drop (cnt fw l x.f0)); rw [hpe.out, ← he.out]; exact Kd.R_mono (R_put3 hF.out.2.2.2.2.1 hF.out.2.2.1 (fun z hz => by rw [List.mem_singleton.1 hz]; decide) _ _ _) (fun _ _ => trivial), hF.out.2.2.2.2.2.grown hG9.out hF.out.2.2.2.2.2.size (fun k e => by injection e with e; omega)⟩
     | false =>
      have he := Lib.hid (acc_end hpl hAcc.out)
      have v6 := (blk_cell hF.out.2.2.2.1 2).trans rfl
      have v0_ := (blk_cell hF.out.2.1 0).trans rfl
      have v1_ := (blk_cell hF.out.2.1 1).trans rfl
      have v2_ := (blk_cell hF.out.2.1 2).trans rfl
      have v3_ := (blk_cell hF.out.2.1 3).trans rfl
      have v4_ := (blk_cell hF.out.2.1 4).trans rfl
      go_wp2_with (first | ((with_reducible refine gate_builtin (b := .append) (xs := #[.tmp 64, .tmp 66]) rfl ?_); at_builtin; refine Kd.R_append k34 (w0 := w) w.heap.size rfl (.tmp 64) (.tmp 66) 25 34 (.agg #[.string ⟨#[]⟩, .int .i64 0, .int .i64 0, .string ⟨#[]⟩, .bool false]) 56 rfl Tryz.underlying25 info34 rfl (by decide) (by omega) _ acc x [.string x.f0, .int .i64 x.f1, .int .i64 x.f2, .string x.f3, .bool x.f4] (fun k => k ≠ b3) (fun _ => False) rfl rfl ?aP (fun _ hk => hk.elim) ?aF ?aO ?aB ?aS ?aL ?_; (case aP => exact k34_mkM _ _ _ _); (case aB => exact hF.out.2.2.2.2.2); (case aF => exact (fun k hk => by have := blk_lt hF.out.2.1; omega)); (case aO => exact hF.out.2.2.2.2.1); (case aS => exact hF.out.2.2.2.2.2.size); (case aL => omega); intro V1 w5 ho hb hg hat; obtain ⟨A6, c6_, rfl⟩ := Kd.R_slice ho; have hF5 := Aside0.mk (hF.out.app ho hb hg n2.out n3.out n4.out q6.out); have x6 := (hg.block _ (blk_lt hF.out.2.2.2.1) (Kd.R_ne hF.out.2.2.2.2.1 hF.out.2.2.2.1 (by decide))).trans hF.out.2.2.2.1; have y6 := blk_frozen x6 2; have x6 := (blk_cell x6 2).trans rfl; rw [show (acc ++ [x]).length = acc.length + 1 by rw [List.length_append, List.length_singleton]] at hF5; have x0 := (blk_cell hF5.out.2.2.2.1 0).trans rfl; have x1 := (blk_cell hF5.out.2.2.2.1 1).trans rfl; have x2 := (blk_cell hF5.out.2.2.2.1 2).trans rfl; have z0 := (blk_cell hF5.out.2.2.1 0).trans rfl; have y0 := blk_frozen hF5.out.2.2.1 0; have z1 := (blk_cell hF5.out.2.2.1 1).trans rfl; have y1 := blk_frozen hF5.out.2.2.1 1; have z2 := (blk_cell hF5.out.2.2.1 2).trans rfl; have y2 := blk_frozen hF5.out.2.2.1 2; obtain ⟨hZ9, hG9⟩ := put3 (.int .i64 e) (.slice A q c) (.slice A6 (acc.length + 1) c6_) hF5.out.2.2.1; replace hZ9 := Lib.hid hZ9; replace hG9 := Lib.hid hG9))
      refine bodyPost_ret (results_ct rfl _ _ b4 27 _ (0, 0) _ rfl hZ9.out Tryz.underlying27 rfl (by kernel_rfl)) rfl ?_
      exact ⟨_, rfl, by show k34.R 34 _ _ _ _ (l.take (cnt fw l x.f0) ++ x :: l.drop (cnt fw l x.f0)); rw [hpe.out, ← he.out]; exact Kd.R_mono (R_put3 hF5.out.2.2.2.2.1 hF5.out.2.2.1 (fun z hz => by rw [List.mem_singleton.1 hz]; decide) _ _ _) (fun _ _ => trivial), hF5.out.2.2.2.2.2.grown hG9.out hF5.out.2.2.2.2.2.size (fun k e => by injection e with e; omega)⟩
end Go.Proofs.YtldlkbjbfgieeaaGreatDoor.SmN
