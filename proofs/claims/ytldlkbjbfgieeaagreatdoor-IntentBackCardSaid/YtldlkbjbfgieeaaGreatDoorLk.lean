/- What an operation does to a state, told by names. -/
/- thin -/
import Derived.Test.YtldlkbjbfgieeaaGreatDoorSu
import Derived.Test.YtldlkbjbfgieeaaGreatDoorOf
namespace Go.Proofs.YtldlkbjbfgieeaaGreatDoor.Lk
set_option linter.unusedVariables false
set_option linter.unusedSimpArgs false
open Go.RowKit Go.Proofs.YtldlkbjbfgieeaaGreatDoorW.PrintWords Go.Proofs.YtldlkbjbfgieeaaGreatDoorW.PrintLast Mo Q Rw Cb Ch Ap Go.Proofs.YtldlkbjbfgieeaaGreatDoor.St Su
open Go.Proofs.YtldlkbjbfgieeaaGreatDoor.Ri (rightS rightO rightW rightN inB)
open Go.Proofs.YtldlkbjbfgieeaaGreatDoor.Nm (nm)
abbrev zW : W := z32
abbrev zN : N := z34
section
variable {α : Type} {f : α → ByteArray} {z : α}
theorem has_look {l : List α} {id : ByteArray} (hs : Sorted f l) : hasG f z l id = (St.look f l id).isSome := by
 cases hh : hasG f z l id with
 | true => obtain ⟨A, x, C, _, _, h, _⟩ := has_yes f z hs hh; rw [h]; rfl
 | false => rw [(has_no f z hs hh).1]; rfl
theorem put_look {l : List α} {x : α} (hs : Sorted f l) (hh : hasG f z l (f x) = false) : Sorted f (l.take (cnt f l (f x)) ++ x :: l.drop (cnt f l (f x))) ∧ (∀ j, St.look f (l.take (cnt f l (f x)) ++ x :: l.drop (cnt f l (f x))) j = if f x = j then some x else St.look f l j) ∧ (l.take (cnt f l (f x)) ++ x :: l.drop (cnt f l (f x))).length = l.length + 1 := by
 obtain ⟨hn, A, B, e1, e2, h1, h2, h3, h4⟩ := has_no f z hs hh
 rw [h3, h4]
 have h := put_ok f (x := x) (by rw [← e1]; exact hs) h1 h2
 rw [← e1] at h
 exact ⟨h.1, h.2, by rw [e1, List.length_append, List.length_append, List.length_cons]; omega⟩
theorem del_look {l : List α} {id : ByteArray} (hs : Sorted f l) (hh : hasG f z l id = true) : Sorted f (l.take (cnt f l id) ++ l.drop (cnt f l id + 1)) ∧ (∀ j, St.look f (l.take (cnt f l id) ++ l.drop (cnt f l id + 1)) j = if id = j then none else St.look f l j) ∧ (l.take (cnt f l id) ++ l.drop (cnt f l id + 1)).length + 1 = l.length := by
 obtain ⟨A, x, C, e1, e2, h1, h2, h3, h4⟩ := has_yes f z hs hh
 rw [h4]
 have h := del_ok f (A := A) (B := C) (x := x) (by rw [← e1]; exact hs)
 rw [← e1, e2] at h
 exact ⟨h.1, h.2, by rw [e1, List.length_append, List.length_append, List.length_cons]; omega⟩
theorem set_look {l : List α} {id : ByteArray} (hs : Sorted f l) (hh : hasG f z l id = true) (g : α → α) (hg : ∀ a, f (g a) = f a) : Sorted f (l.set (cnt f l id) (g (l.getD (cnt f l id) z))) ∧ (∀ j, St.look f (l.set (cnt f l id) (g (l.getD (cnt f l id) z))) j = if id = j then (St.look f l id).map g else St.look f l j) ∧ (l.set (cnt f l id) (g (l.getD (cnt f l id) z))).length = l.length := by
 obtain ⟨A, x, C, e1, e2, h1, h2, h3, h4⟩ := has_yes f z hs hh
 rw [h2, h3, h1]
 have h := set_ok f (A := A) (B := C) (x := x) (y := g x) (by rw [← e1]; exact hs) (hg x)
 rw [← e1, e2] at h
 exact ⟨h.1, h.2, by rw [e1, List.length_append, List.length_append, List.length_cons, List.length_cons]⟩
theorem same_look {l : List α} {id : ByteArray} (j : ByteArray) : St.look f l j = if id = j then St.look f l id else St.look f l j := by
 by_cases h : id = j
 ·rw [if_pos h, h]
 ·rw [if_neg h]
end
def errS (k : Int) (a b : Bool) (n m : Nat) : Int :=
 if k = 1 then (if a = true then 121 else if 8 ≤ n then 123 else 0) else if k = 4 then (if b = true then 121 else if 8 ≤ m then 123 else 0) else if k = 8 then 0 else if k = 2 then (if a = true then 0 else 122) else if k = 3 then (if a = true then 0 else 122) else (if b = true then 0 else 122)
def upW (k : Int) (x : W) (want : Int) (o : Option W) : Option W := if k = 1 then some x else if k = 2 then o.map (fun z => { z with f1 := want }) else if k = 3 then none else o
def upN (k : Int) (y : N) (o : Option N) : Option N := if k = 4 then some y else if k = 5 then none else if k = 6 then o.map (fun z => { z with f4 := true }) else if k = 7 then o.map (fun z => { z with f4 := false }) else o
def dW (k : Int) : Int := if k = 1 then 1 else if k = 3 then -1 else 0
def dN (k : Int) : Int := if k = 4 then 1 else if k = 5 then -1 else 0
structure Did (e : Int) (ws : List W) (ns : List N) (k : Int) (x : W) (y : N) (id : ByteArray) (want : Int) (r : Int × List W × List N × Int) : Prop where
 sW : Sorted fw r.2.1
 sN : Sorted fn r.2.2.1
 ep : r.1 = e + (if k = 8 then 1 else 0)
 lW : ∀ j, St.look fw r.2.1 j = if id = j then upW k x want (St.look fw ws id) else St.look fw ws j
 lN : ∀ j, St.look fn r.2.2.1 j = if id = j then upN k y (St.look fn ns id) else St.look fn ns j
 nW : (r.2.1.length : Int) = ws.length + dW k
 nN : (r.2.2.1.length : Int) = ns.length + dN k
def Good (e : Int) (ws : List W) (ns : List N) (k : Int) (x : W) (y : N) (id : ByteArray) (want : Int) (r : Int × List W × List N × Int) : Prop :=
 r.2.2.2 = errS k (St.look fw ws id).isSome (St.look fn ns id).isSome ws.length ns.length ∧ (r.2.2.2 = 0 → Did e ws ns k x y id want r)
theorem bad_ {e : Int} {ws : List W} {ns : List N} {k : Int} {x : W} {y : N} {id : ByteArray} {want : Int} {a : Int} {b : List W} {c : List N} {q : Int} (hq : q ≠ 0) (h : q = errS k (St.look fw ws id).isSome (St.look fn ns id).isSome ws.length ns.length) : Good e ws ns k x y id want (a, b, c, q) := ⟨h, fun h0 => absurd h0 hq⟩
theorem ch_look {e : Int} {ws : List W} {ns : List N} {k : Int} {x : W} {y : N} {id : ByteArray} {want : Int} (hW : Sorted fw ws) (hN : Sorted fn ns) (hk : 1 ≤ k ∧ k ≤ 8) (hk1 : k = 1 → x.f0 = id) (hk4 : k = 4 → y.f0 = id) (he : e < 1099511627776) :
 Good e ws ns k x y id want (chS e ws ns k x y id want) := by
 have hw := has_look (z := zW) (id := id) hW
 have hn := has_look (z := zN) (id := id) hN
 have ew : FiW.has ws id = hasG fw zW ws id := rfl
 have en : FiN.has ns id = hasG fn zN ns id := rfl
 unfold chS
 by_cases k1 : k = 1
 ·subst k1
  have hx := hk1 rfl
  rw [if_pos rfl]
  unfold PuW.putS
  rw [show FiW.has ws x.f0 = hasG fw zW ws (fw x) from rfl, show fw x = id from hx]
  cases hh : hasG fw zW ws id with
  | true => rw [if_pos rfl]; exact bad_ (by decide) (by rw [← hw, hh]; rfl)
  | false =>
   rw [if_neg Bool.false_ne_true]
   by_cases h8 : 8 ≤ ws.length
   ·rw [if_pos h8]; exact bad_ (by decide) (by rw [← hw, hh]; unfold errS; rw [if_pos rfl, if_neg Bool.false_ne_true, if_pos h8])
   ·rw [if_neg h8]
    have hp := put_look (f := fw) (z := zW) (x := x) hW (by rw [show fw x = id from hx]; exact hh)
    refine ⟨by rw [← hw, hh]; unfold errS; rw [if_pos rfl, if_neg Bool.false_ne_true, if_neg h8], fun _ => ⟨hp.1, hN, by simp, fun j => ?_, fun j => ?_, ?_, ?_⟩⟩
    ·rw [← hx]; exact hp.2.1 j
    ·exact same_look j
    ·show ((ws.take (cnt fw ws (fw x)) ++ x :: ws.drop (cnt fw ws (fw x))).length : Int) = _
     rw [hp.2.2]; unfold dW; rw [if_pos rfl]; omega
    ·show (ns.length : Int) = _
     unfold dN; rw [if_neg (by decide), if_neg (by decide)]; omega
 rw [if_neg k1]
 by_cases k4 : k = 4
 ·subst k4
  have hx := hk4 rfl
  rw [if_pos rfl]
  unfold PuN.putS
  rw [show FiN.has ns y.f0 = hasG fn zN ns (fn y) from rfl, show fn y = id from hx]
  cases hh : hasG fn zN ns id with
  | true => rw [if_pos rfl]; exact bad_ (by decide) (by rw [← hn, hh]; rfl)
  | false =>
   rw [if_neg Bool.false_ne_true]
   by_cases h8 : 8 ≤ ns.length
   ·rw [if_pos h8]; exact bad_ (by decide) (by rw [← hn, hh]; unfold errS; rw [if_neg (by decide), if_pos rfl, if_neg Bool.false_ne_true, if_pos h8])
   ·rw [if_neg h8]
    have hp := put_look (f := fn) (z := zN) (x := y) hN (by rw [show fn y = id from hx]; exact hh)
    refine ⟨by rw [← hn, hh]; unfold errS; rw [if_neg (by decide), if_pos rfl, if_neg Bool.false_ne_true, if_neg h8], fun _ => ⟨hW, hp.1, by simp, fun j => ?_, fun j => ?_, ?_, ?_⟩⟩
    ·exact same_look j
    ·rw [← hx]; exact hp.2.1 j
    ·show (ws.length : Int) = _
     unfold dW; rw [if_neg (by decide), if_neg (by decide)]; omega
    ·show ((ns.take (cnt fn ns (fn y)) ++ y :: ns.drop (cnt fn ns (fn y))).length : Int) = _
     rw [hp.2.2]; unfold dN; rw [if_pos rfl]; omega
 rw [if_neg k4]
 by_cases k8 : k = 8
 ·subst k8
  rw [if_pos rfl, if_neg (by omega)]
  refine ⟨rfl, fun _ => ⟨hW, hN, by simp, fun j => same_look j, fun j => same_look j, ?_, ?_⟩⟩
  ·show (ws.length : Int) = ws.length + 0; omega
  ·show (ns.length : Int) = ns.length + 0; omega
 rw [if_neg k8]
 by_cases k2 : k = 2
 ·subst k2
  rw [if_pos rfl, ew]
  cases hh : hasG fw zW ws id with
  | false => rw [if_neg Bool.false_ne_true]; exact bad_ (by decide) (by rw [← hw, hh]; rfl)
  | true =>
   rw [if_pos rfl]
   have hp := set_look (f := fw) (z := zW) hW hh (fun z => { z with f1 := want }) (fun _ => rfl)
   refine ⟨by rw [← hw, hh]; rfl, fun _ => ⟨hp.1, hN, by simp, fun j => hp.2.1 j, fun j => same_look j, ?_, ?_⟩⟩
   ·show ((ws.set (cnt fw ws id) _).length : Int) = ws.length + 0
    rw [List.length_set]; omega
   ·show (ns.length : Int) = ns.length + 0; omega
 rw [if_neg k2]
 by_cases k3 : k = 3
 ·subst k3
  rw [if_pos rfl, ew]
  cases hh : hasG fw zW ws id with
  | false => rw [if_neg Bool.false_ne_true]; exact bad_ (by decide) (by rw [← hw, hh]; rfl)
  | true =>
   rw [if_pos rfl]
   have hp := del_look (f := fw) (z := zW) hW hh
   refine ⟨by rw [← hw, hh]; rfl, fun _ => ⟨hp.1, hN, by simp, fun j => hp.2.1 j, fun j => same_look j, ?_, ?_⟩⟩
   ·show ((ws.take (cnt fw ws id) ++ ws.drop (cnt fw ws id + 1)).length : Int) = ws.length + -1
    have := hp.2.2; omega
   ·show (ns.length : Int) = ns.length + 0; omega
 rw [if_neg k3]
 by_cases k5 : k = 5
 ·subst k5
  rw [if_pos rfl, en]
  cases hh : hasG fn zN ns id with
  | false => rw [if_neg Bool.false_ne_true]; exact bad_ (by decide) (by rw [← hn, hh]; rfl)
  | true =>
   rw [if_pos rfl]
   have hp := del_look (f := fn) (z := zN) hN hh
   refine ⟨by rw [← hn, hh]; rfl, fun _ => ⟨hW, hp.1, by simp, fun j => same_look j, fun j => hp.2.1 j, ?_, ?_⟩⟩
   ·show (ws.length : Int) = ws.length + 0; omega
   ·show ((ns.take (cnt fn ns id) ++ ns.drop (cnt fn ns id + 1)).length : Int) = ns.length + -1
    have := hp.2.2; omega
 rw [if_neg k5, en]
 rcases (show k = 6 ∨ k = 7 from by omega) with rfl | rfl
 all_goals
  cases hh : hasG fn zN ns id with
  | false => rw [if_neg Bool.false_ne_true]; exact bad_ (by decide) (by rw [← hn, hh]; rfl)
  | true =>
   rw [if_pos rfl]
   first
   | have hp := set_look (f := fn) (z := zN) hN hh (fun z => { z with f4 := decide ((6 : Int) = 6) }) (fun _ => rfl)
     refine ⟨by rw [← hn, hh]; rfl, fun _ => ⟨hW, hp.1, by simp, fun j => same_look j, fun j => hp.2.1 j, ?_, ?_⟩⟩
     ·show (ws.length : Int) = ws.length + 0; omega
     ·show ((ns.set (cnt fn ns id) _).length : Int) = ns.length + 0
      rw [List.length_set]; omega
   | have hp := set_look (f := fn) (z := zN) hN hh (fun z => { z with f4 := decide ((7 : Int) = 6) }) (fun _ => rfl)
     refine ⟨by rw [← hn, hh]; rfl, fun _ => ⟨hW, hp.1, by simp, fun j => same_look j, fun j => hp.2.1 j, ?_, ?_⟩⟩
     ·show (ws.length : Int) = ws.length + 0; omega
     ·show ((ns.set (cnt fn ns id) _).length : Int) = ns.length + 0
      rw [List.length_set]; omega
/-- the same of Apply at right states and right operations -/
theorem ap_look {e : Int} {ws : List W} {ns : List N} {k : Int} {x : W} {y : N} {id : ByteArray} {want : Int} (hs : rightS e ws ns = true) (ho : rightO k x y id want = true) (hk1 : k = 1 → x.f0 = id) (hk4 : k = 4 → y.f0 = id) (he : e < 1099511627776) :
 Good e ws ns k x y id want (applyS e ws ns k x y id want) := by
 obtain ⟨_, _, _, hW, hN⟩ := rightS_iff.1 hs
 have h := ch_look (e := e) (x := x) (y := y) (want := want) hW.1 hN.1 (op_range ho) hk1 hk4 he
 unfold applyS
 rw [if_pos ⟨hs, ho⟩]
 by_cases h0 : (chS e ws ns k x y id want).2.2.2 = 0
 ·rw [if_pos h0]; exact h
 ·rw [if_neg h0]; exact ⟨h.1, fun h1 => absurd h1 h0⟩
end Go.Proofs.YtldlkbjbfgieeaaGreatDoor.Lk
