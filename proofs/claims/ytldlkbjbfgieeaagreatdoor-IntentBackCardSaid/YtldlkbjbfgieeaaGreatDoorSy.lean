/- The document's work and node: the place of a name. -/
import Derived.Test.YtldlkbjbfgieeaaGreatDoorRq
import Derived.Test.YtldlkbjbfgieeaaGreatDoorAp
import Derived.Test.YtldlkbjbfgieeaaGreatDoorCb
import Derived.Test.YtldlkbjbfgieeaaGreatDoorMo
namespace Go.Proofs.YtldlkbjbfgieeaaGreatDoor.Rx
set_option linter.unusedVariables false
set_option linter.unusedSimpArgs false
open Go.RowKit Go.Proofs.YtldlkbjbfgieeaaGreatDoorW.PrintWords Go.Proofs.YtldlkbjbfgieeaaGreatDoorW.PrintLast Mo Q Cb Rq Ch Ap Go.Proofs.YtldlkbjbfgieeaaGreatDoor.St
open Go.Proofs.YtldlkbjbfgieeaaGreatDoor.Ri (stV)
section
variable {α : Type} {f : α → ByteArray} {z : α}
theorem pos_of {l : List α} {id : ByteArray} (hs : Sorted f l) {i : Nat} (hi : i < l.length) (h : f (l.getD i z) = id) : cnt f l id = i ∧ hasG f z l id = true := by
 have hg : ∀ t, t < l.length → ∃ q : t < l.length, l.getD t z = l[t] := fun t q => ⟨q, by rw [List.getD_eq_getElem?_getD, List.getElem?_eq_getElem q]; rfl⟩
 have hp : ∀ a b, a < b → b < l.length → lt (f (l.getD a z)) (f (l.getD b z)) = true := fun a b hab hb => by
  obtain ⟨qa, ea⟩ := hg a (by omega)
  obtain ⟨qb, eb⟩ := hg b hb
  rw [ea, eb]
  exact List.pairwise_iff_getElem.1 hs a b qa qb hab
 have hc : cnt f l id = i := countP_boundary (fun x => lt (f x) id) z l i (by omega) (fun t ht => by rw [← h]; exact hp t i ht hi) (fun t h1 h2 => by
  rcases Nat.eq_or_lt_of_le h1 with rfl | h1
  ·show lt (f (l.getD i z)) id = false
   rw [h]; exact lt_irr _
  ·have := hp i t h1 h2
   rw [h] at this
   exact lt_asymm this)
 refine ⟨hc, ?_⟩
 unfold hasG
 rw [hc, h, decide_eq_true hi, decide_eq_true rfl]; rfl
theorem no_of {l : List α} {id : ByteArray} (h : ∀ j, j < l.length → f (l.getD j z) ≠ id) : hasG f z l id = false := by
 cases q : hasG f z l id with
 | false => rfl
 | true =>
  unfold hasG at q
  simp only [Bool.and_eq_true, decide_eq_true_eq] at q
  exact absurd q.2 (h _ q.1)
/-- where a name stands -/
def ix (f : α → ByteArray) (z : α) (l : List α) (id : ByteArray) : Int := if hasG f z l id = true then (cnt f l id : Int) else -1
end
theorem str_eq {a b : ByteArray} (h : a = b) : (a.toList == b.toList) = true := by rw [h]; simp
theorem str_ne {a b : ByteArray} (h : a ≠ b) : (a.toList == b.toList) = false := by
 rw [beq_eq_false_iff_ne]
 intro q
 rw [ByteArray.toList_eq, ByteArray.toList_eq] at q
 exact h (ByteArray.ext (Array.toList_inj.1 q))
set_option maxHeartbeats 4000000 in
set_option maxRecDepth 100000 in
theorem work_any (e : Int) (A B : Option Addr) (n c m d : Nat) (l : List W) (id : ByteArray) (w : World) (hl : l.length = n) (hA : Kd.C k32 w A l.length l) (hs : Sorted (fun x : W => x.f0) l) (h8 : l.length ≤ 1000) :
 Calls Tryz.prog 41 #[stV e A n c B m d, .string id] w fun e' w' => e' = .returned (.int .i64 (ix (fun x : W => x.f0) z32 l id)) ∧ Below w.heap.size w w' := by
 subst hl
 have hB := below_alloc (Below.refl w.heap.size w) (stC e A l.length c B m d)
 have hO := blk_new w (stC e A l.length c B m d)
 have b1 := (blk_cell hO 1).trans rfl
 have hC := Kd.C_below hA hB
 have hs := Aside0.mk hs
 clear hA
 go_enter Tryz.func41, Tryz.ntmps41
 go_wp2_with fail
 revert hB hO b1 hC
 generalize w.alloc (stC e A l.length c B m d) = wa
 intro hB hO b1 hC
 clear hO
 go_loopg [5] l.length (fun kx v_ wr => ∃ i : Nat, v_ = .int .i64 (i : Int) ∧ i + kx = l.length ∧ wr = wa ∧ Aside0 (∀ j, j < i → (l.getD j z32).f0 ≠ id))
 case atStart => exact ⟨0, rfl, by omega, rfl, Aside0.mk (fun j hj => absurd hj (Nat.not_lt_zero j))⟩
 case round =>
  obtain ⟨i, rfl, hik, rfl, hI⟩ := hrel
  by_cases hi : i < l.length
  ·obtain ⟨k, rfl⟩ : ∃ k, gk = k + 1 := ⟨gk - 1, by omega⟩
   have d1 : decide ((i : Int) < (l.length : Int)) = true := decide_eq_true (by omega)
   obtain ⟨ad, eA, c0, _⟩ := at_T32 hC (i : Int) (by omega) (by omega)
   cases eA
   rw [rdW, Int.toNat_natCast] at c0
   obtain ⟨x, hx⟩ : ∃ x, x = (l.getD i z32).f0 := ⟨_, rfl⟩
   rw [← hx] at c0
   replace hx := Lib.hid hx
   have pi : (0 ≤ (i : Int)) = True := eq_true (by omega)
   have qi : ((i : Int) < (l.length : Int)) = True := eq_true (by omega)
   by_cases q : x = id
   ·have hp := pos_of (f := fun x : W => x.f0) (z := z32) hs.out hi (by show (l.getD i z32).f0 = id; rw [← hx.out]; exact q)
    have hz := Lib.hid (show ix (fun x : W => x.f0) z32 l id = (i : Int) from by unfold ix; rw [if_pos hp.2, hp.1])
    have e1 := str_eq q
    clear q hp
    go_wp2_with fail
    go_ret
    exact ⟨by rw [hz.out]; rfl, hB⟩
   ·have e1 := str_ne q
    have q' := Lib.hid q
    clear q
    go_wp2_with fail
    go_roundg k
    case measure => omega
    case rel => exact ⟨i + 1, by first | rfl | (simp; done), by omega, rfl, Aside0.mk (fun j hj => by
     rcases Nat.lt_or_ge j i with h | h
     ·exact hI.out j h
     ·rw [show j = i by omega, ← hx.out]; exact q'.out)⟩
  ·have d1 : decide ((i : Int) < (l.length : Int)) = false := decide_eq_false (by omega)
   have hz := Lib.hid (show ix (fun x : W => x.f0) z32 l id = -1 from by unfold ix; rw [no_of (f := fun x : W => x.f0) (z := z32) (fun j hj => hI.out j (by omega)), if_neg Bool.false_ne_true])
   go_wp2_with fail
   go_ret
   exact ⟨by rw [hz.out]; rfl, hB⟩
set_option maxHeartbeats 4000000 in
set_option maxRecDepth 100000 in
theorem node_any (e : Int) (A B : Option Addr) (n c m d : Nat) (l : List N) (id : ByteArray) (w : World) (hl : l.length = m) (hA : Kd.C k34 w B l.length l) (hs : Sorted (fun x : N => x.f0) l) (h8 : l.length ≤ 1000) :
 Calls Tryz.prog 42 #[stV e A n c B m d, .string id] w fun e' w' => e' = .returned (.int .i64 (ix (fun x : N => x.f0) z34 l id)) ∧ Below w.heap.size w w' := by
 subst hl
 have hB := below_alloc (Below.refl w.heap.size w) (stC e A n c B l.length d)
 have hO := blk_new w (stC e A n c B l.length d)
 have b1 := (blk_cell hO 2).trans rfl
 have hC := Kd.C_below hA hB
 have hs := Aside0.mk hs
 clear hA
 go_enter Tryz.func42, Tryz.ntmps42
 go_wp2_with fail
 revert hB hO b1 hC
 generalize w.alloc (stC e A n c B l.length d) = wa
 intro hB hO b1 hC
 clear hO
 go_loopg [5] l.length (fun kx v_ wr => ∃ i : Nat, v_ = .int .i64 (i : Int) ∧ i + kx = l.length ∧ wr = wa ∧ Aside0 (∀ j, j < i → (l.getD j z34).f0 ≠ id))
 case atStart => exact ⟨0, rfl, by omega, rfl, Aside0.mk (fun j hj => absurd hj (Nat.not_lt_zero j))⟩
 case round =>
  obtain ⟨i, rfl, hik, rfl, hI⟩ := hrel
  by_cases hi : i < l.length
  ·obtain ⟨k, rfl⟩ : ∃ k, gk = k + 1 := ⟨gk - 1, by omega⟩
   have d1 : decide ((i : Int) < (l.length : Int)) = true := decide_eq_true (by omega)
   obtain ⟨ad, eA, c0, _⟩ := at_T34 hC (i : Int) (by omega) (by omega)
   cases eA
   rw [rdN, Int.toNat_natCast] at c0
   obtain ⟨x, hx⟩ : ∃ x, x = (l.getD i z34).f0 := ⟨_, rfl⟩
   rw [← hx] at c0
   replace hx := Lib.hid hx
   have pi : (0 ≤ (i : Int)) = True := eq_true (by omega)
   have qi : ((i : Int) < (l.length : Int)) = True := eq_true (by omega)
   by_cases q : x = id
   ·have hp := pos_of (f := fun x : N => x.f0) (z := z34) hs.out hi (by show (l.getD i z34).f0 = id; rw [← hx.out]; exact q)
    have hz := Lib.hid (show ix (fun x : N => x.f0) z34 l id = (i : Int) from by unfold ix; rw [if_pos hp.2, hp.1])
    have e1 := str_eq q
    clear q hp
    go_wp2_with fail
    go_ret
    exact ⟨by rw [hz.out]; rfl, hB⟩
   ·have e1 := str_ne q
    have q' := Lib.hid q
    clear q
    go_wp2_with fail
    go_roundg k
    case measure => omega
    case rel => exact ⟨i + 1, by first | rfl | (simp; done), by omega, rfl, Aside0.mk (fun j hj => by
     rcases Nat.lt_or_ge j i with h | h
     ·exact hI.out j h
     ·rw [show j = i by omega, ← hx.out]; exact q'.out)⟩
  ·have d1 : decide ((i : Int) < (l.length : Int)) = false := decide_eq_false (by omega)
   have hz := Lib.hid (show ix (fun x : N => x.f0) z34 l id = -1 from by unfold ix; rw [no_of (f := fun x : N => x.f0) (z := z34) (fun j hj => hI.out j (by omega)), if_neg Bool.false_ne_true])
   go_wp2_with fail
   go_ret
   exact ⟨by rw [hz.out]; rfl, hB⟩
end Go.Proofs.YtldlkbjbfgieeaaGreatDoor.Rx
namespace Go.Proofs.YtldlkbjbfgieeaaGreatDoor.Sy
set_option linter.unusedVariables false
set_option linter.unusedSimpArgs false
open Go.RowKit Go.Proofs.YtldlkbjbfgieeaaGreatDoorW.PrintWords Go.Proofs.YtldlkbjbfgieeaaGreatDoorW.PrintLast Mo Q Ch Ap Rq Rx
open Go.Proofs.YtldlkbjbfgieeaaGreatDoor.Ri (stV)
theorem w_ext {x y : W} (h0 : x.f0 = y.f0) (h1 : x.f1 = y.f1) (h2 : x.f2 = y.f2) (h3 : x.f3 = y.f3) (h4 : x.f4 = y.f4) (h5 : x.f5 = y.f5) : x = y := by
 cases x; cases y; simp only at h0 h1 h2 h3 h4 h5; subst h0; subst h1; subst h2; subst h3; subst h4; subst h5; rfl
theorem n_ext {x y : N} (h0 : x.f0 = y.f0) (h1 : x.f1 = y.f1) (h2 : x.f2 = y.f2) (h3 : x.f3 = y.f3) (h4 : x.f4 = y.f4) : x = y := by
 cases x; cases y; simp only at h0 h1 h2 h3 h4; subst h0; subst h1; subst h2; subst h3; subst h4; rfl
theorem tl {a b : ByteArray} (h : a.toList = b.toList) : a = b := by
 rw [ByteArray.toList_eq, ByteArray.toList_eq] at h
 exact ByteArray.ext (Array.toList_inj.1 h)
theorem all_eq {α : Type} {z : α} {l m : List α} (h : l.length = m.length) (he : ∀ j, j < l.length → l.getD j z = m.getD j z) : l = m := by
 refine List.ext_getElem h fun j h1 h2 => ?_
 have := he j h1
 rwa [List.getD_eq_getElem?_getD, List.getElem?_eq_getElem h1, List.getD_eq_getElem?_getD, List.getElem?_eq_getElem h2] at this
def Sf (w w' : World) (b2 b3 : Nat) (e : Int) (A B : Option Addr) (c d : Nat) (ws : List W) (ns : List N) (e' : Int) (A' B' : Option Addr) (c' d' : Nat) (ws' : List W) (ns' : List N) : Prop :=
 w'.heap[b2]? = some (.cells #[.int .i64 e, .slice A ws.length c, .slice B ns.length d] 27 (0, 0)) ∧ w'.heap[b3]? = some (.cells #[.int .i64 e', .slice A' ws'.length c', .slice B' ns'.length d'] 27 (0, 0)) ∧ Kd.C k32 w' A ws.length ws ∧ Kd.C k34 w' B ns.length ns ∧ Kd.C k32 w' A' ws'.length ws' ∧ Kd.C k34 w' B' ns'.length ns' ∧ Below w.heap.size w w'
theorem Sf.below {w w' w2 : World} {b2 b3 : Nat} {e e' : Int} {A B A' B' : Option Addr} {c d c' d' : Nat} {ws ws' : List W} {ns ns' : List N} (h : Sf w w' b2 b3 e A B c d ws ns e' A' B' c' d' ws' ns') (hb : Below w'.heap.size w' w2) : Sf w w2 b2 b3 e A B c d ws ns e' A' B' c' d' ws' ns' :=
 ⟨blk_below h.1 hb, blk_below h.2.1 hb, Kd.C_below h.2.2.1 hb, Kd.C_below h.2.2.2.1 hb, Kd.C_below h.2.2.2.2.1 hb, Kd.C_below h.2.2.2.2.2.1 hb, below_then h.2.2.2.2.2.2 h.2.2.2.2.2.2.size hb⟩
def SyPost (w : World) (p : Prop) (e : Ending) (w' : World) : Prop := ∃ b : Bool, e = .returned (.bool b) ∧ (b = true ↔ p) ∧ Below w.heap.size w w'
set_option maxHeartbeats 8000000 in
set_option maxRecDepth 100000 in
theorem same_calls (e : Int) (A B : Option Addr) (c d : Nat) (ws : List W) (ns : List N) (e' : Int) (A' B' : Option Addr) (c' d' : Nat) (ws' : List W) (ns' : List N) (w : World) (hA : Kd.C k32 w A ws.length ws) (hN : Kd.C k34 w B ns.length ns) (hA' : Kd.C k32 w A' ws'.length ws') (hN' : Kd.C k34 w B' ns'.length ns') (h1 : ws.length ≤ 1000000) (h2 : ns.length ≤ 1000000) :
 Calls Tryz.prog 16 #[stV e A ws.length c B ns.length d, stV e' A' ws'.length c' B' ns'.length d'] w (SyPost w (e = e' ∧ ws = ws' ∧ ns = ns')) := by
 have hF := below_alloc (below_alloc (Below.refl w.heap.size w) (stC e A ws.length c B ns.length d)) (stC e' A' ws'.length c' B' ns'.length d')
 have g2 := blk_alloc (blk_new w (stC e A ws.length c B ns.length d)) (stC e' A' ws'.length c' B' ns'.length d')
 have g3 := blk_new (w.alloc (stC e A ws.length c B ns.length d)) (stC e' A' ws'.length c' B' ns'.length d')
 obtain ⟨b2, hg⟩ : ∃ g, g = w.heap.size := ⟨_, rfl⟩
 obtain ⟨b3, ho⟩ : ∃ o, o = w.heap.size + 1 := ⟨_, rfl⟩
 rw [← hg] at g2
 rw [show (w.alloc (stC e A ws.length c B ns.length d)).heap.size = b3 by simp [ho]] at g3
 replace hF := Aside0.mk (show Sf w _ b2 b3 e A B c d ws ns e' A' B' c' d' ws' ns' from ⟨g2, g3, Kd.C_below hA hF, Kd.C_below hN hF, Kd.C_below hA' hF, Kd.C_below hN' hF, hF⟩)
 replace hg := Lib.hid hg
 replace ho := Lib.hid ho
 clear g2 g3 hA hN hA' hN'
 go_enter Tryz.func16, Tryz.ntmps16
 by_cases hn : e = e'
 ·have b0 : ((e : Int) != (e' : Int)) = false := by rw [hn]; simp
  have he := Lib.hid hn
  clear hn
  by_cases hn : ws.length = ws'.length
  ·have b1 : ((ws.length : Int) != (ws'.length : Int)) = false := by rw [hn]; simp
   have hlW := Lib.hid hn
   clear hn
   by_cases hn : ns.length = ns'.length
   ·have b2_ : ((ns.length : Int) != (ns'.length : Int)) = false := by rw [hn]; simp
    have hlN := Lib.hid hn
    clear hn
    go_wp2_with fail
    rw [← ho.out, ← hg.out]
    revert hF
    generalize (w.alloc (stC e A ws.length c B ns.length d)).alloc (stC e' A' ws'.length c' B' ns'.length d') = wa
    intro hF
    clear b0 b1 b2_
    go_loopg [5] ws.length (fun kx v_ wr => ∃ i : Nat, v_ = .int .i64 (i : Int) ∧ i + kx = ws.length ∧ (∀ j, j < i → ws.getD j z32 = ws'.getD j z32) ∧ Aside0 (Sf w wr b2 b3 e A B c d ws ns e' A' B' c' d' ws' ns'))
    case atStart => exact ⟨0, rfl, by omega, (fun j hj => absurd hj (Nat.not_lt_zero j)), hF⟩
    case round =>
     clear hF
     obtain ⟨i, rfl, hik, hI, hF⟩ := hrel
     replace hI := Lib.hid hI
     have s1 := (blk_cell hF.out.1 1).trans rfl
     have s2 := (blk_cell hF.out.2.1 1).trans rfl
     by_cases hi : i < ws.length
     ·obtain ⟨k, rfl⟩ : ∃ k, gk = k + 1 := ⟨gk - 1, by omega⟩
      have d1 : decide ((i : Int) < (ws.length : Int)) = true := decide_eq_true (by omega)
      obtain ⟨ad, eA, p0, p1, p2, p3, p4, p5⟩ := at_T32 hF.out.2.2.1 (i : Int) (by omega) (by omega)
      subst eA
      obtain ⟨ad', eA, q0, q1, q2, q3, q4, q5⟩ := at_T32 hF.out.2.2.2.2.1 (i : Int) (by omega) (by have := hlW.out; omega)
      subst eA
      rw [rdW, Int.toNat_natCast] at p0
      rw [rdW, Int.toNat_natCast] at p1
      rw [rdW, Int.toNat_natCast] at p2
      rw [rdW, Int.toNat_natCast] at p3
      rw [rdW, Int.toNat_natCast] at p4
      rw [rdW, Int.toNat_natCast] at p5
      rw [rdW, Int.toNat_natCast] at q0
      rw [rdW, Int.toNat_natCast] at q1
      rw [rdW, Int.toNat_natCast] at q2
      rw [rdW, Int.toNat_natCast] at q3
      rw [rdW, Int.toNat_natCast] at q4
      rw [rdW, Int.toNat_natCast] at q5
      obtain ⟨x, hx⟩ : ∃ x, x = ws.getD i z32 := ⟨_, rfl⟩
      obtain ⟨y, hy⟩ : ∃ y, y = ws'.getD i z32 := ⟨_, rfl⟩
      rw [← hx] at p0
      rw [← hx] at p1
      rw [← hx] at p2
      rw [← hx] at p3
      rw [← hx] at p4
      rw [← hx] at p5
      rw [← hy] at q0
      rw [← hy] at q1
      rw [← hy] at q2
      rw [← hy] at q3
      rw [← hy] at q4
      rw [← hy] at q5
      replace hx := Lib.hid hx
      replace hy := Lib.hid hy
      have pi : (0 ≤ (i : Int)) = True := eq_true (by omega)
      have qi : ((i : Int) < (ws.length : Int)) = True := eq_true (by omega)
      have qj : ((i : Int) < (ws'.length : Int)) = True := eq_true (by have := hlW.out; omega)
      go_wp2_with fail
      by_cases h : x = y
      ·subst h
       refine start_ (n := 11) (S := fun w' => w'.cell? ⟨b2, 1, none⟩ = some (.slice (some ad) ws.length c) ∧ w'.cell? ⟨b3, 1, none⟩ = some (.slice (some ad') ws'.length c') ∧ w'.cell? (ad.add (i * 6)) = some (.string x.f0) ∧ w'.cell? ⟨(ad.add (i * 6)).block, (ad.add (i * 6)).off + 1, none⟩ = some (.int .i64 x.f1) ∧ w'.cell? ⟨(ad.add (i * 6)).block, (ad.add (i * 6)).off + 2, none⟩ = some (.int .i64 x.f2) ∧ w'.cell? ⟨(ad.add (i * 6)).block, (ad.add (i * 6)).off + 3, none⟩ = some (.int .i64 x.f3) ∧ w'.cell? ⟨(ad.add (i * 6)).block, (ad.add (i * 6)).off + 4, none⟩ = some (.int .i64 x.f4) ∧ w'.cell? ⟨(ad.add (i * 6)).block, (ad.add (i * 6)).off + 5, none⟩ = some (.string x.f5) ∧ w'.cell? (ad'.add (i * 6)) = some (.string x.f0) ∧ w'.cell? ⟨(ad'.add (i * 6)).block, (ad'.add (i * 6)).off + 1, none⟩ = some (.int .i64 x.f1) ∧ w'.cell? ⟨(ad'.add (i * 6)).block, (ad'.add (i * 6)).off + 2, none⟩ = some (.int .i64 x.f2) ∧ w'.cell? ⟨(ad'.add (i * 6)).block, (ad'.add (i * 6)).off + 3, none⟩ = some (.int .i64 x.f3) ∧ w'.cell? ⟨(ad'.add (i * 6)).block, (ad'.add (i * 6)).off + 4, none⟩ = some (.int .i64 x.f4) ∧ w'.cell? ⟨(ad'.add (i * 6)).block, (ad'.add (i * 6)).off + 5, none⟩ = some (.string x.f5)) (ds := []) (bt 11 0) (by kernel_rfl) rfl (by kernel_rfl) (⟨s1, s2, p0, p1, p2, p3, p4, p5, q0, q1, q2, q3, q4, q5⟩) (fun hHeld => ?_)
       replace hF := Aside0.mk (hF.out.below (below_drew (Below.refl _ _)))
       generalize wr.drew = wd at *
       refine py 0 37 (bt 11 1) rfl rfl (h := ?_)
       refine ty 1 38 (bt 11 3) rfl rfl hHeld (h := ?_)
       refine py 2 39 (bt 11 7) rfl rfl (h := ?_)
       refine py 3 40 (bt 11 15) rfl rfl (h := ?_)
       refine ty 4 41 (bt 11 31) rfl rfl hHeld (h := ?_)
       refine py 5 42 (bt 11 63) rfl rfl (h := ?_)
       refine ty 6 43 (bt 11 127) rfl rfl hHeld (h := ?_)
       refine py 7 44 (bt 11 255) rfl rfl (h := ?_)
       refine py 8 45 (bt 11 511) rfl rfl (h := ?_)
       refine ty 9 46 (bt 11 1023) rfl rfl hHeld (h := ?_)
       refine py 10 47 (bt 11 2047) rfl rfl (h := ?_)
       refine done_ (by kernel_rfl) ?_
       go_wp2_with fail
       go_roundg k
       case measure => omega
       case rel => exact ⟨i + 1, by first | rfl | (simp; done), by omega, (fun j hj => by
              rcases Nat.lt_or_ge j i with h | h
              ·exact hI.out j h
              ·rw [show j = i by omega, ← hx.out, ← hy.out]), hF⟩
      ·replace h := Lib.hid h
       refine start_ (n := 11) (S := fun w' => w'.cell? ⟨b2, 1, none⟩ = some (.slice (some ad) ws.length c) ∧ w'.cell? ⟨b3, 1, none⟩ = some (.slice (some ad') ws'.length c') ∧ w'.cell? (ad.add (i * 6)) = some (.string x.f0) ∧ w'.cell? ⟨(ad.add (i * 6)).block, (ad.add (i * 6)).off + 1, none⟩ = some (.int .i64 x.f1) ∧ w'.cell? ⟨(ad.add (i * 6)).block, (ad.add (i * 6)).off + 2, none⟩ = some (.int .i64 x.f2) ∧ w'.cell? ⟨(ad.add (i * 6)).block, (ad.add (i * 6)).off + 3, none⟩ = some (.int .i64 x.f3) ∧ w'.cell? ⟨(ad.add (i * 6)).block, (ad.add (i * 6)).off + 4, none⟩ = some (.int .i64 x.f4) ∧ w'.cell? ⟨(ad.add (i * 6)).block, (ad.add (i * 6)).off + 5, none⟩ = some (.string x.f5) ∧ w'.cell? (ad'.add (i * 6)) = some (.string y.f0) ∧ w'.cell? ⟨(ad'.add (i * 6)).block, (ad'.add (i * 6)).off + 1, none⟩ = some (.int .i64 y.f1) ∧ w'.cell? ⟨(ad'.add (i * 6)).block, (ad'.add (i * 6)).off + 2, none⟩ = some (.int .i64 y.f2) ∧ w'.cell? ⟨(ad'.add (i * 6)).block, (ad'.add (i * 6)).off + 3, none⟩ = some (.int .i64 y.f3) ∧ w'.cell? ⟨(ad'.add (i * 6)).block, (ad'.add (i * 6)).off + 4, none⟩ = some (.int .i64 y.f4) ∧ w'.cell? ⟨(ad'.add (i * 6)).block, (ad'.add (i * 6)).off + 5, none⟩ = some (.string y.f5)) (ds := []) (bt 11 0) (by kernel_rfl) rfl (by kernel_rfl) (⟨s1, s2, p0, p1, p2, p3, p4, p5, q0, q1, q2, q3, q4, q5⟩) (fun hHeld => ?_)
       replace hF := Aside0.mk (hF.out.below (below_drew (Below.refl _ _)))
       generalize wr.drew = wd at *
       refine py 0 37 (bt 11 1) rfl rfl (h := ?_)
       refine ty 1 38 (bt 11 3) rfl rfl hHeld (h := ?_)
       refine py 2 39 (bt 11 7) rfl rfl (h := ?_)
       refine py 3 40 (bt 11 15) rfl rfl (h := ?_)
       refine ty 4 41 (bt 11 31) rfl rfl hHeld (h := ?_)
       refine py 5 42 (bt 11 63) rfl rfl (h := ?_)
       refine ty 6 43 (bt 11 127) rfl rfl hHeld (h := ?_)
       refine py 7 44 (bt 11 255) rfl rfl (h := ?_)
       refine py 8 45 (bt 11 511) rfl rfl (h := ?_)
       refine ty 9 46 (bt 11 1023) rfl rfl hHeld (h := ?_)
       refine py 10 47 (bt 11 2047) rfl rfl (v := .bool true) (hv := by intro w'; go_simp; exact fun e0 e1 e2 e3 e4 e5 => h.out (w_ext (tl e0) e1 e2 e3 e4 (tl e5))) (h := ?_)
       refine done_ (by kernel_rfl) ?_
       go_wp2_with fail
       go_ret
       exact ⟨false, rfl, ⟨fun h => (by cases h), fun h' => absurd (by rw [hx.out, hy.out, h'.2.1]) h.out⟩, hF.out.2.2.2.2.2.2⟩
     ·have d1 : decide ((i : Int) < (ws.length : Int)) = false := decide_eq_false (by omega)
      have heW := Lib.hid (all_eq (z := z32) hlW.out (fun j hj => hI.out j (by omega)))
      clear hI
      go_wp2_with fail
      go_loopg [6] ns.length (fun kx v_ wr => ∃ i : Nat, v_ = .int .i64 (i : Int) ∧ i + kx = ns.length ∧ (∀ j, j < i → ns.getD j z34 = ns'.getD j z34) ∧ Aside0 (Sf w wr b2 b3 e A B c d ws ns e' A' B' c' d' ws' ns'))
      case atStart => exact ⟨0, rfl, by omega, (fun j hj => absurd hj (Nat.not_lt_zero j)), hF⟩
      case round =>
       clear hF
       obtain ⟨i, rfl, hik, hI, hF⟩ := hrel
       replace hI := Lib.hid hI
       have s1 := (blk_cell hF.out.1 2).trans rfl
       have s2 := (blk_cell hF.out.2.1 2).trans rfl
       by_cases hi : i < ns.length
       ·obtain ⟨k, rfl⟩ : ∃ k, gk = k + 1 := ⟨gk - 1, by omega⟩
        have d1 : decide ((i : Int) < (ns.length : Int)) = true := decide_eq_true (by omega)
        obtain ⟨ad, eA, p0, p1, p2, p3, p4⟩ := at_T34 hF.out.2.2.2.1 (i : Int) (by omega) (by omega)
        subst eA
        obtain ⟨ad', eA, q0, q1, q2, q3, q4⟩ := at_T34 hF.out.2.2.2.2.2.1 (i : Int) (by omega) (by have := hlN.out; omega)
        subst eA
        rw [rdN, Int.toNat_natCast] at p0
        rw [rdN, Int.toNat_natCast] at p1
        rw [rdN, Int.toNat_natCast] at p2
        rw [rdN, Int.toNat_natCast] at p3
        rw [rdN, Int.toNat_natCast] at p4
        rw [rdN, Int.toNat_natCast] at q0
        rw [rdN, Int.toNat_natCast] at q1
        rw [rdN, Int.toNat_natCast] at q2
        rw [rdN, Int.toNat_natCast] at q3
        rw [rdN, Int.toNat_natCast] at q4
        obtain ⟨x, hx⟩ : ∃ x, x = ns.getD i z34 := ⟨_, rfl⟩
        obtain ⟨y, hy⟩ : ∃ y, y = ns'.getD i z34 := ⟨_, rfl⟩
        rw [← hx] at p0
        rw [← hx] at p1
        rw [← hx] at p2
        rw [← hx] at p3
        rw [← hx] at p4
        rw [← hy] at q0
        rw [← hy] at q1
        rw [← hy] at q2
        rw [← hy] at q3
        rw [← hy] at q4
        replace hx := Lib.hid hx
        replace hy := Lib.hid hy
        have pi : (0 ≤ (i : Int)) = True := eq_true (by omega)
        have qi : ((i : Int) < (ns.length : Int)) = True := eq_true (by omega)
        have qj : ((i : Int) < (ns'.length : Int)) = True := eq_true (by have := hlN.out; omega)
        go_wp2_with fail
        by_cases h : x = y
        ·subst h
         refine start_ (n := 11) (S := fun w' => w'.cell? ⟨b2, 2, none⟩ = some (.slice (some ad) ns.length d) ∧ w'.cell? ⟨b3, 2, none⟩ = some (.slice (some ad') ns'.length d') ∧ w'.cell? (ad.add (i * 5)) = some (.string x.f0) ∧ w'.cell? ⟨(ad.add (i * 5)).block, (ad.add (i * 5)).off + 1, none⟩ = some (.int .i64 x.f1) ∧ w'.cell? ⟨(ad.add (i * 5)).block, (ad.add (i * 5)).off + 2, none⟩ = some (.int .i64 x.f2) ∧ w'.cell? ⟨(ad.add (i * 5)).block, (ad.add (i * 5)).off + 3, none⟩ = some (.string x.f3) ∧ w'.cell? ⟨(ad.add (i * 5)).block, (ad.add (i * 5)).off + 4, none⟩ = some (.bool x.f4) ∧ w'.cell? (ad'.add (i * 5)) = some (.string x.f0) ∧ w'.cell? ⟨(ad'.add (i * 5)).block, (ad'.add (i * 5)).off + 1, none⟩ = some (.int .i64 x.f1) ∧ w'.cell? ⟨(ad'.add (i * 5)).block, (ad'.add (i * 5)).off + 2, none⟩ = some (.int .i64 x.f2) ∧ w'.cell? ⟨(ad'.add (i * 5)).block, (ad'.add (i * 5)).off + 3, none⟩ = some (.string x.f3) ∧ w'.cell? ⟨(ad'.add (i * 5)).block, (ad'.add (i * 5)).off + 4, none⟩ = some (.bool x.f4)) (ds := []) (bt 11 0) (by kernel_rfl) rfl (by kernel_rfl) (⟨s1, s2, p0, p1, p2, p3, p4, q0, q1, q2, q3, q4⟩) (fun hHeld => ?_)
         replace hF := Aside0.mk (hF.out.below (below_drew (Below.refl _ _)))
         generalize wr.drew = wd at *
         refine py 0 55 (bt 11 1) rfl rfl (h := ?_)
         refine ty 1 56 (bt 11 3) rfl rfl hHeld (h := ?_)
         refine py 2 57 (bt 11 7) rfl rfl (h := ?_)
         refine py 3 58 (bt 11 15) rfl rfl (h := ?_)
         refine ty 4 59 (bt 11 31) rfl rfl hHeld (h := ?_)
         refine py 5 60 (bt 11 63) rfl rfl (h := ?_)
         refine ty 6 61 (bt 11 127) rfl rfl hHeld (h := ?_)
         refine py 7 62 (bt 11 255) rfl rfl (h := ?_)
         refine py 8 63 (bt 11 511) rfl rfl (h := ?_)
         refine ty 9 64 (bt 11 1023) rfl rfl hHeld (h := ?_)
         refine py 10 65 (bt 11 2047) rfl rfl (h := ?_)
         refine done_ (by kernel_rfl) ?_
         go_wp2_with fail
         go_roundg k
         case measure => omega
         case rel => exact ⟨i + 1, by first | rfl | (simp; done), by omega, (fun j hj => by
                rcases Nat.lt_or_ge j i with h | h
                ·exact hI.out j h
                ·rw [show j = i by omega, ← hx.out, ← hy.out]), hF⟩
        ·replace h := Lib.hid h
         refine start_ (n := 11) (S := fun w' => w'.cell? ⟨b2, 2, none⟩ = some (.slice (some ad) ns.length d) ∧ w'.cell? ⟨b3, 2, none⟩ = some (.slice (some ad') ns'.length d') ∧ w'.cell? (ad.add (i * 5)) = some (.string x.f0) ∧ w'.cell? ⟨(ad.add (i * 5)).block, (ad.add (i * 5)).off + 1, none⟩ = some (.int .i64 x.f1) ∧ w'.cell? ⟨(ad.add (i * 5)).block, (ad.add (i * 5)).off + 2, none⟩ = some (.int .i64 x.f2) ∧ w'.cell? ⟨(ad.add (i * 5)).block, (ad.add (i * 5)).off + 3, none⟩ = some (.string x.f3) ∧ w'.cell? ⟨(ad.add (i * 5)).block, (ad.add (i * 5)).off + 4, none⟩ = some (.bool x.f4) ∧ w'.cell? (ad'.add (i * 5)) = some (.string y.f0) ∧ w'.cell? ⟨(ad'.add (i * 5)).block, (ad'.add (i * 5)).off + 1, none⟩ = some (.int .i64 y.f1) ∧ w'.cell? ⟨(ad'.add (i * 5)).block, (ad'.add (i * 5)).off + 2, none⟩ = some (.int .i64 y.f2) ∧ w'.cell? ⟨(ad'.add (i * 5)).block, (ad'.add (i * 5)).off + 3, none⟩ = some (.string y.f3) ∧ w'.cell? ⟨(ad'.add (i * 5)).block, (ad'.add (i * 5)).off + 4, none⟩ = some (.bool y.f4)) (ds := []) (bt 11 0) (by kernel_rfl) rfl (by kernel_rfl) (⟨s1, s2, p0, p1, p2, p3, p4, q0, q1, q2, q3, q4⟩) (fun hHeld => ?_)
         replace hF := Aside0.mk (hF.out.below (below_drew (Below.refl _ _)))
         generalize wr.drew = wd at *
         refine py 0 55 (bt 11 1) rfl rfl (h := ?_)
         refine ty 1 56 (bt 11 3) rfl rfl hHeld (h := ?_)
         refine py 2 57 (bt 11 7) rfl rfl (h := ?_)
         refine py 3 58 (bt 11 15) rfl rfl (h := ?_)
         refine ty 4 59 (bt 11 31) rfl rfl hHeld (h := ?_)
         refine py 5 60 (bt 11 63) rfl rfl (h := ?_)
         refine ty 6 61 (bt 11 127) rfl rfl hHeld (h := ?_)
         refine py 7 62 (bt 11 255) rfl rfl (h := ?_)
         refine py 8 63 (bt 11 511) rfl rfl (h := ?_)
         refine ty 9 64 (bt 11 1023) rfl rfl hHeld (h := ?_)
         refine py 10 65 (bt 11 2047) rfl rfl (v := .bool true) (hv := by intro w'; go_simp; exact fun e0 e1 e2 e3 e4 => h.out (n_ext (tl e0) e1 e2 (tl e3) e4)) (h := ?_)
         refine done_ (by kernel_rfl) ?_
         go_wp2_with fail
         go_ret
         exact ⟨false, rfl, ⟨fun h => (by cases h), fun h' => absurd (by rw [hx.out, hy.out, h'.2.2]) h.out⟩, hF.out.2.2.2.2.2.2⟩
       ·have d1 : decide ((i : Int) < (ns.length : Int)) = false := decide_eq_false (by omega)
        have heN := Lib.hid (all_eq (z := z34) hlN.out (fun j hj => hI.out j (by omega)))
        clear hI
        go_wp2_with fail
        go_ret
        exact ⟨true, rfl, ⟨fun _ => ⟨he.out, heW.out, heN.out⟩, fun _ => rfl⟩, hF.out.2.2.2.2.2.2⟩
   ·have b2_ : ((ns.length : Int) != (ns'.length : Int)) = true := bne_iff_ne.mpr (by omega)
    replace hn := Lib.hid hn
    go_wp2_with fail
    go_ret
    exact ⟨false, rfl, ⟨fun h => (by cases h), fun h => absurd (congrArg List.length h.2.2) hn.out⟩, hF.out.2.2.2.2.2.2⟩
  ·have b1 : ((ws.length : Int) != (ws'.length : Int)) = true := bne_iff_ne.mpr (by omega)
   replace hn := Lib.hid hn
   go_wp2_with fail
   go_ret
   exact ⟨false, rfl, ⟨fun h => (by cases h), fun h => absurd (congrArg List.length h.2.1) hn.out⟩, hF.out.2.2.2.2.2.2⟩
 ·have b0 : ((e : Int) != (e' : Int)) = true := bne_iff_ne.mpr (by omega)
  replace hn := Lib.hid hn
  go_wp2_with fail
  go_ret
  exact ⟨false, rfl, ⟨fun h => (by cases h), fun h => absurd h.1 hn.out⟩, hF.out.2.2.2.2.2.2⟩
theorem same_yes (e : Int) (A B A' B' : Option Addr) (c d c' d' : Nat) (ws : List W) (ns : List N) (w : World) (hA : Kd.C k32 w A ws.length ws) (hN : Kd.C k34 w B ns.length ns) (hA' : Kd.C k32 w A' ws.length ws) (hN' : Kd.C k34 w B' ns.length ns) (h1 : ws.length ≤ 1000000) (h2 : ns.length ≤ 1000000) :
 Calls Tryz.prog 16 #[stV e A ws.length c B ns.length d, stV e A' ws.length c' B' ns.length d'] w fun e w' => e = .returned (.bool true) ∧ Below w.heap.size w w' :=
 (same_calls e A B c d ws ns e A' B' c' d' ws ns w hA hN hA' hN' h1 h2).mono fun e w' ⟨b, he, hi, hb⟩ => ⟨by rw [he, hi.2 ⟨rfl, rfl, rfl⟩], hb⟩
end Go.Proofs.YtldlkbjbfgieeaaGreatDoor.Sy
