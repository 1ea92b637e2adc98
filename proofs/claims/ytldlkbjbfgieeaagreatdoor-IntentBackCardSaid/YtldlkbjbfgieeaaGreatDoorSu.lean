/- Right states stay right. -/
/- thin -/
import Derived.Test.YtldlkbjbfgieeaaGreatDoorCb
import Derived.Test.YtldlkbjbfgieeaaGreatDoorAp
namespace Go.Proofs.YtldlkbjbfgieeaaGreatDoor.Su
set_option linter.unusedVariables false
set_option linter.unusedSimpArgs false
open Go.RowKit Go.Proofs.YtldlkbjbfgieeaaGreatDoorW.PrintWords Go.Proofs.YtldlkbjbfgieeaaGreatDoorW.PrintLast Mo Q Rw Cb Ch Ap Go.Proofs.YtldlkbjbfgieeaaGreatDoor.St
open Go.Proofs.YtldlkbjbfgieeaaGreatDoor.Ri (rightS rightO rightP goW goN rightW rightN Small inB)
open Go.Proofs.YtldlkbjbfgieeaaGreatDoor.Nm
def fw (x : W) : ByteArray := x.f0
def fn (y : N) : ByteArray := y.f0
theorem hasW (l : List W) (id : ByteArray) : FiW.has l id = hasG fw z32 l id := rfl
theorem hasN (l : List N) (id : ByteArray) : FiN.has l id = hasG fn z34 l id := rfl
theorem posW (l : List W) (id : ByteArray) : FiW.pos l id = cnt fw l id := rfl
theorem posN (l : List N) (id : ByteArray) : FiN.pos l id = cnt fn l id := rfl
def RW (ws : List W) : Prop := Sorted fw ws ∧ ∀ x ∈ ws, rightW x = true ∧ lt ByteArray.empty x.f0 = true
def RN (ns : List N) : Prop := Sorted fn ns ∧ ∀ x ∈ ns, rightN x = true ∧ lt ByteArray.empty x.f0 = true
theorem goW_iff : ∀ (ws : List W) (last : ByteArray), goW ws last = true ↔ Sorted fw ws ∧ ∀ x ∈ ws, rightW x = true ∧ lt last x.f0 = true
 | [], last => ⟨fun _ => ⟨List.Pairwise.nil, fun x hx => by cases hx⟩, fun _ => rfl⟩
 | x :: l, last => by
   unfold goW
   simp only [Bool.and_eq_true]
   rw [goW_iff l x.f0]
   constructor
   ·rintro ⟨⟨h1, h2⟩, h3, h4⟩
    refine ⟨List.pairwise_cons.2 ⟨fun b hb => (h4 b hb).2, h3⟩, fun z hz => ?_⟩
    rcases List.mem_cons.1 hz with rfl | hz
    ·exact ⟨h1, h2⟩
    ·exact ⟨(h4 z hz).1, lt_trans h2 (h4 z hz).2⟩
   ·rintro ⟨h1, h2⟩
    obtain ⟨a1, a2⟩ := List.pairwise_cons.1 h1
    exact ⟨h2 x List.mem_cons_self, a2, fun z hz => ⟨(h2 z (List.mem_cons_of_mem _ hz)).1, a1 z hz⟩⟩
theorem goN_iff : ∀ (ns : List N) (last : ByteArray), goN ns last = true ↔ Sorted fn ns ∧ ∀ x ∈ ns, rightN x = true ∧ lt last x.f0 = true
 | [], last => ⟨fun _ => ⟨List.Pairwise.nil, fun x hx => by cases hx⟩, fun _ => rfl⟩
 | x :: l, last => by
   unfold goN
   simp only [Bool.and_eq_true]
   rw [goN_iff l x.f0]
   constructor
   ·rintro ⟨⟨h1, h2⟩, h3, h4⟩
    refine ⟨List.pairwise_cons.2 ⟨fun b hb => (h4 b hb).2, h3⟩, fun z hz => ?_⟩
    rcases List.mem_cons.1 hz with rfl | hz
    ·exact ⟨h1, h2⟩
    ·exact ⟨(h4 z hz).1, lt_trans h2 (h4 z hz).2⟩
   ·rintro ⟨h1, h2⟩
    obtain ⟨a1, a2⟩ := List.pairwise_cons.1 h1
    exact ⟨h2 x List.mem_cons_self, a2, fun z hz => ⟨(h2 z (List.mem_cons_of_mem _ hz)).1, a1 z hz⟩⟩
theorem rightS_iff {e : Int} {ws : List W} {ns : List N} : rightS e ws ns = true ↔ (0 ≤ e ∧ e ≤ 1099511627776) ∧ ws.length ≤ 8 ∧ ns.length ≤ 8 ∧ RW ws ∧ RN ns := by
 unfold rightS rightP RW RN
 rw [← goW_iff ws ByteArray.empty, ← goN_iff ns ByteArray.empty]
 simp only [Bool.and_eq_true, decide_eq_true_eq]
 constructor
 ·rintro ⟨h1, ⟨⟨h2, h3⟩, h4⟩, h5⟩; exact ⟨h1, h2, h3, h4, h5⟩
 ·rintro ⟨h1, h2, h3, h4, h5⟩; exact ⟨h1, ⟨⟨h2, h3⟩, h4⟩, h5⟩
theorem rightO_1 {x : W} {y : N} {id : ByteArray} {want : Int} (h : rightO 1 x y id want = true) : rightW x = true ∧ lt ByteArray.empty x.f0 = true := by
 unfold rightO at h
 rw [if_pos rfl] at h
 unfold rightP at h
 simp only [Bool.and_eq_true] at h
 exact ((goW_iff _ _).1 h.1.2).2 x List.mem_cons_self
theorem rightO_4 {x : W} {y : N} {id : ByteArray} {want : Int} (h : rightO 4 x y id want = true) : rightN y = true ∧ lt ByteArray.empty y.f0 = true := by
 unfold rightO at h
 rw [if_neg (by decide), if_pos rfl] at h
 unfold rightP at h
 simp only [Bool.and_eq_true] at h
 exact ((goN_iff _ _).1 h.2).2 y List.mem_cons_self
theorem RW.put {A B : List W} {x : W} (h : RW (A ++ B)) (h1 : ∀ a ∈ A, lt a.f0 x.f0 = true) (h2 : ∀ b ∈ B, lt x.f0 b.f0 = true) (hx : rightW x = true ∧ lt ByteArray.empty x.f0 = true) : RW (A ++ x :: B) := ⟨(put_ok fw h.1 h1 h2).1, fun z hz => by
 rcases List.mem_append.1 hz with hz | hz
 ·exact h.2 z (List.mem_append_left _ hz)
 ·rcases List.mem_cons.1 hz with rfl | hz
  ·exact hx
  ·exact h.2 z (List.mem_append_right _ hz)⟩
theorem RN.put {A B : List N} {x : N} (h : RN (A ++ B)) (h1 : ∀ a ∈ A, lt a.f0 x.f0 = true) (h2 : ∀ b ∈ B, lt x.f0 b.f0 = true) (hx : rightN x = true ∧ lt ByteArray.empty x.f0 = true) : RN (A ++ x :: B) := ⟨(put_ok fn h.1 h1 h2).1, fun z hz => by
 rcases List.mem_append.1 hz with hz | hz
 ·exact h.2 z (List.mem_append_left _ hz)
 ·rcases List.mem_cons.1 hz with rfl | hz
  ·exact hx
  ·exact h.2 z (List.mem_append_right _ hz)⟩
theorem RW.del {A B : List W} {x : W} (h : RW (A ++ x :: B)) : RW (A ++ B) := ⟨(del_ok fw h.1).1, fun z hz => h.2 z (by rcases List.mem_append.1 hz with hz | hz; exact List.mem_append_left _ hz; exact List.mem_append_right _ (List.mem_cons_of_mem _ hz))⟩
theorem RN.del {A B : List N} {x : N} (h : RN (A ++ x :: B)) : RN (A ++ B) := ⟨(del_ok fn h.1).1, fun z hz => h.2 z (by rcases List.mem_append.1 hz with hz | hz; exact List.mem_append_left _ hz; exact List.mem_append_right _ (List.mem_cons_of_mem _ hz))⟩
theorem RW.set {A B : List W} {x y : W} (h : RW (A ++ x :: B)) (e : y.f0 = x.f0) (hy : rightW y = true ∧ lt ByteArray.empty y.f0 = true) : RW (A ++ y :: B) := ⟨(set_ok fw h.1 e).1, fun z hz => by
 rcases List.mem_append.1 hz with hz | hz
 ·exact h.2 z (List.mem_append_left _ hz)
 ·rcases List.mem_cons.1 hz with rfl | hz
  ·exact hy
  ·exact h.2 z (List.mem_append_right _ (List.mem_cons_of_mem _ hz))⟩
theorem RN.set {A B : List N} {x y : N} (h : RN (A ++ x :: B)) (e : y.f0 = x.f0) (hy : rightN y = true ∧ lt ByteArray.empty y.f0 = true) : RN (A ++ y :: B) := ⟨(set_ok fn h.1 e).1, fun z hz => by
 rcases List.mem_append.1 hz with hz | hz
 ·exact h.2 z (List.mem_append_left _ hz)
 ·rcases List.mem_cons.1 hz with rfl | hz
  ·exact hy
  ·exact h.2 z (List.mem_append_right _ (List.mem_cons_of_mem _ hz))⟩
theorem stays {e : Int} {ws : List W} {ns : List N} {k : Int} {x : W} {y : N} {id : ByteArray} {want : Int} (hs : rightS e ws ns = true) (ho : rightO k x y id want = true) (h0 : (chS e ws ns k x y id want).2.2.2 = 0) :
 rightS (chS e ws ns k x y id want).1 (chS e ws ns k x y id want).2.1 (chS e ws ns k x y id want).2.2.1 = true := by
 obtain ⟨he, hw, hn, hW, hN⟩ := rightS_iff.1 hs
 have hk := op_range ho
 revert h0
 unfold chS
 by_cases k1 : k = 1
 ·subst k1
  rw [if_pos rfl]
  have hx := rightO_1 ho
  unfold PuW.putS
  rw [hasW, posW]
  cases hh : hasG fw z32 ws x.f0 with
  | true => rw [if_pos rfl]; intro h; exact absurd h (show ¬ (121 : Int) = 0 by decide)
  | false =>
   rw [if_neg (by decide)]
   by_cases h8 : 8 ≤ ws.length
   ·rw [if_pos h8]; intro h; exact absurd h (show ¬ (123 : Int) = 0 by decide)
   ·rw [if_neg h8]
    intro _
    obtain ⟨_, A, B, e1, _, h1, h2, h3, h4⟩ := has_no fw z32 hW.1 hh
    show rightS e (ws.take (cnt fw ws x.f0) ++ x :: ws.drop (cnt fw ws x.f0)) ns = true
    rw [h3, h4]
    rw [e1] at hW
    exact rightS_iff.2 ⟨he, by rw [e1] at h8; simp only [List.length_append, List.length_cons] at h8 ⊢; omega, hn, hW.put h1 h2 hx, hN⟩
 rw [if_neg k1]
 by_cases k4 : k = 4
 ·subst k4
  rw [if_pos rfl]
  have hy := rightO_4 ho
  unfold PuN.putS
  rw [hasN, posN]
  cases hh : hasG fn z34 ns y.f0 with
  | true => rw [if_pos rfl]; intro h; exact absurd h (show ¬ (121 : Int) = 0 by decide)
  | false =>
   rw [if_neg (by decide)]
   by_cases h8 : 8 ≤ ns.length
   ·rw [if_pos h8]; intro h; exact absurd h (show ¬ (123 : Int) = 0 by decide)
   ·rw [if_neg h8]
    intro _
    obtain ⟨_, A, B, e1, _, h1, h2, h3, h4⟩ := has_no fn z34 hN.1 hh
    show rightS e ws (ns.take (cnt fn ns y.f0) ++ y :: ns.drop (cnt fn ns y.f0)) = true
    rw [h3, h4]
    rw [e1] at hN
    exact rightS_iff.2 ⟨he, hw, by rw [e1] at h8; simp only [List.length_append, List.length_cons] at h8 ⊢; omega, hW, hN.put h1 h2 hy⟩
 rw [if_neg k4]
 by_cases k8 : k = 8
 ·rw [if_pos k8]
  by_cases hm : e = 1099511627776
  ·rw [if_pos hm]; intro h; exact absurd h (show ¬ (120 : Int) = 0 by decide)
  ·rw [if_neg hm]
   intro _
   exact rightS_iff.2 ⟨⟨by show 0 ≤ e + 1; omega, by show e + 1 ≤ 1099511627776; omega⟩, hw, hn, hW, hN⟩
 rw [if_neg k8]
 by_cases k2 : k = 2
 ·rw [if_pos k2, hasW, posW]
  cases hh : hasG fw z32 ws id with
  | false => rw [if_neg (by decide)]; intro h; exact absurd h (show ¬ (122 : Int) = 0 by decide)
  | true =>
   rw [if_pos rfl]
   intro _
   obtain ⟨A, v, C, e1, e2, _, e4, e5, _⟩ := has_yes fw z32 hW.1 hh
   show rightS e (ws.set (cnt fw ws id) { ws.getD (cnt fw ws id) z32 with f1 := want }) ns = true
   rw [e5, e4]
   have hv := hW.2 v (by rw [e1]; exact List.mem_append_right _ List.mem_cons_self)
   have hin : inB want 0 16 = true := by
      unfold rightO at ho
      rw [if_neg k1, if_neg k4, if_pos k2] at ho
      simp only [Bool.and_eq_true] at ho
      exact ho.2
   have hlen : (A ++ { v with f1 := want } :: C).length ≤ 8 := by rw [e1] at hw; simpa using hw
   rw [e1] at hW
   refine rightS_iff.2 ⟨he, hlen, hn, hW.set rfl ⟨?_, hv.2⟩, hN⟩
   have h5 := hv.1
   unfold rightW at h5 ⊢
   simp only [Bool.and_eq_true] at h5 ⊢
   exact ⟨⟨⟨⟨⟨h5.1.1.1.1.1, h5.1.1.1.1.2⟩, hin⟩, h5.1.1.2⟩, h5.1.2⟩, h5.2⟩
 rw [if_neg k2]
 by_cases k3 : k = 3
 ·rw [if_pos k3, hasW, posW]
  cases hh : hasG fw z32 ws id with
  | false => rw [if_neg (by decide)]; intro h; exact absurd h (show ¬ (122 : Int) = 0 by decide)
  | true =>
   rw [if_pos rfl]
   intro _
   obtain ⟨A, v, C, e1, e2, _, e4, _, e6⟩ := has_yes fw z32 hW.1 hh
   show rightS e (ws.take (cnt fw ws id) ++ ws.drop (cnt fw ws id + 1)) ns = true
   rw [e6]
   have hlen : (A ++ C).length ≤ 8 := by rw [e1] at hw; simp only [List.length_append, List.length_cons] at hw ⊢; omega
   rw [e1] at hW
   exact rightS_iff.2 ⟨he, hlen, hn, hW.del, hN⟩
 rw [if_neg k3]
 by_cases k5 : k = 5
 ·rw [if_pos k5, hasN, posN]
  cases hh : hasG fn z34 ns id with
  | false => rw [if_neg (by decide)]; intro h; exact absurd h (show ¬ (122 : Int) = 0 by decide)
  | true =>
   rw [if_pos rfl]
   intro _
   obtain ⟨A, v, C, e1, e2, _, e4, _, e6⟩ := has_yes fn z34 hN.1 hh
   show rightS e ws (ns.take (cnt fn ns id) ++ ns.drop (cnt fn ns id + 1)) = true
   rw [e6]
   have hlen : (A ++ C).length ≤ 8 := by rw [e1] at hn; simp only [List.length_append, List.length_cons] at hn ⊢; omega
   rw [e1] at hN
   exact rightS_iff.2 ⟨he, hw, hlen, hW, hN.del⟩
 rw [if_neg k5, hasN, posN]
 cases hh : hasG fn z34 ns id with
 | false => rw [if_neg (by decide)]; intro h; exact absurd h (show ¬ (122 : Int) = 0 by decide)
 | true =>
  rw [if_pos rfl]
  intro _
  obtain ⟨A, v, C, e1, e2, _, e4, e5, _⟩ := has_yes fn z34 hN.1 hh
  show rightS e ws (ns.set (cnt fn ns id) { ns.getD (cnt fn ns id) z34 with f4 := decide (k = 6) }) = true
  rw [e5, e4]
  have hv := hN.2 v (by rw [e1]; exact List.mem_append_right _ List.mem_cons_self)
  have hlen : (A ++ { v with f4 := decide (k = 6) } :: C).length ≤ 8 := by rw [e1] at hn; simpa using hn
  rw [e1] at hN
  exact rightS_iff.2 ⟨he, hw, hlen, hW, hN.set rfl ⟨hv.1, hv.2⟩⟩
/-- what Apply gives is right, or nothing -/
theorem apply_stays {e : Int} {ws : List W} {ns : List N} {k : Int} {x : W} {y : N} {id : ByteArray} {want : Int} : ((applyS e ws ns k x y id want).2.2.2 = 0 → rightS (applyS e ws ns k x y id want).1 (applyS e ws ns k x y id want).2.1 (applyS e ws ns k x y id want).2.2.1 = true) ∧ ((applyS e ws ns k x y id want).2.2.2 ≠ 0 → (applyS e ws ns k x y id want).1 = 0 ∧ (applyS e ws ns k x y id want).2.1 = [] ∧ (applyS e ws ns k x y id want).2.2.1 = []) := by
 unfold applyS
 by_cases h : rightS e ws ns = true ∧ rightO k x y id want = true
 ·rw [if_pos h]
  by_cases h0 : (chS e ws ns k x y id want).2.2.2 = 0
  ·rw [if_pos h0]
   exact ⟨fun _ => stays h.1 h.2 h0, fun h' => absurd h0 h'⟩
  ·rw [if_neg h0]
   exact ⟨fun h' => absurd h' h0, fun _ => ⟨rfl, rfl, rfl⟩⟩
 ·rw [if_neg h]
  exact ⟨fun h' => absurd h' (show ¬ (120 : Int) = 0 by decide), fun _ => ⟨rfl, rfl, rfl⟩⟩
end Go.Proofs.YtldlkbjbfgieeaaGreatDoor.Su
