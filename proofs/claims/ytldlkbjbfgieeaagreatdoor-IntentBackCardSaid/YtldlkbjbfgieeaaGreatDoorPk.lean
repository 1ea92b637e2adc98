/- A state and an operation as bytes: none begins another one. -/
/- thin -/
import Derived.Test.YtldlkbjbfgieeaaGreatDoorVrn
import Derived.Test.YtldlkbjbfgieeaaGreatDoorLk
namespace Go.Proofs.YtldlkbjbfgieeaaGreatDoor.Pk
set_option linter.unusedVariables false
set_option linter.unusedSimpArgs false
open Go.RowKit Go.Proofs.YtldlkbjbfgieeaaGreatDoorW.PrintWords Go.Proofs.YtldlkbjbfgieeaaGreatDoor.Num Vth Q Ch
open Go.Proofs.YtldlkbjbfgieeaaGreatDoor.Ri (rightS rightO rightW rightN inB)
def In (x : Int) : Prop := -9223372036854775808 ≤ x ∧ x ≤ 9223372036854775807
def text (s : ByteArray) : ByteArray := num s.size ++ s
def workB (x : W) : ByteArray := text x.f0 ++ num x.f1 ++ num x.f2 ++ num x.f3 ++ num x.f4 ++ text x.f5
def cB (b : Bool) : Int := if b = true then 1 else 0
def nodeB (y : N) : ByteArray := text y.f0 ++ num y.f1 ++ num y.f2 ++ text y.f3 ++ num (cB y.f4)
def catB {α : Type} (f : α → ByteArray) : List α → ByteArray
 | [] => ByteArray.empty
 | x :: l => f x ++ catB f l
def stateB (e : Int) (ws : List W) (ns : List N) : ByteArray := num e ++ num ws.length ++ catB workB ws ++ num ns.length ++ catB nodeB ns
theorem catB_snoc {α : Type} (f : α → ByteArray) : ∀ (l : List α) (x : α), catB f (l ++ [x]) = catB f l ++ f x
 | [], x => by show f x ++ ByteArray.empty = ByteArray.empty ++ f x; rw [ByteArray.append_empty, ByteArray.empty_append]
 | y :: l, x => by show f y ++ catB f (l ++ [x]) = (f y ++ catB f l) ++ f x; rw [catB_snoc f l x, ByteArray.append_assoc]
/-- sizes that are few -/
def okW (x : W) : Prop := x.f0.size ≤ 200 ∧ In x.f1 ∧ In x.f2 ∧ In x.f3 ∧ In x.f4 ∧ x.f5.size ≤ 200
def okN (y : N) : Prop := y.f0.size ≤ 200 ∧ In y.f1 ∧ In y.f2 ∧ y.f3.size ≤ 200
theorem bsz (s : ByteArray) : (bytesOf s).length = s.size := bytesOf_length s
theorem ba (s t : ByteArray) : bytesOf (s ++ t) = bytesOf s ++ bytesOf t := bytes_append s t
/-- a number ahead is told, and what is behind it -/
theorem num_cut {x y : Int} {r t : ByteArray} (hx : In x) (hy : In y) (h : num x ++ r = num y ++ t) : x = y ∧ r = t := by
 have h1 : bytesOf (num x) ++ bytesOf r = bytesOf (num y) ++ bytesOf t := by rw [← ba, ← ba, h]
 have e := num_told h1 hx.1 hx.2 hy.1 hy.2
 subst e
 exact ⟨rfl, bytes_inj (List.append_cancel_left h1)⟩
theorem size_in (s : ByteArray) (h : s.size ≤ 200) : In s.size := ⟨by omega, by omega⟩
theorem text_cut {x y r t : ByteArray} (hx : x.size ≤ 200) (hy : y.size ≤ 200) (h : text x ++ r = text y ++ t) : x = y ∧ r = t := by
 unfold text at h
 rw [ByteArray.append_assoc, ByteArray.append_assoc] at h
 obtain ⟨e, h⟩ := num_cut (size_in x hx) (size_in y hy) h
 have h1 : bytesOf x ++ bytesOf r = bytesOf y ++ bytesOf t := by rw [← ba, ← ba, h]
 have hl : (bytesOf x).length = (bytesOf y).length := by rw [bsz, bsz]; omega
 obtain ⟨a, b⟩ := List.append_inj h1 hl
 exact ⟨bytes_inj a, bytes_inj b⟩
theorem work_cut {x y : W} {r t : ByteArray} (hx : okW x) (hy : okW y) (h : workB x ++ r = workB y ++ t) : x = y ∧ r = t := by
 obtain ⟨x0, x1, x2, x3, x4, x5⟩ := hx
 obtain ⟨y0, y1, y2, y3, y4, y5⟩ := hy
 unfold workB at h
 simp only [ByteArray.append_assoc] at h
 obtain ⟨e0, h⟩ := text_cut x0 y0 h
 obtain ⟨e1, h⟩ := num_cut x1 y1 h
 obtain ⟨e2, h⟩ := num_cut x2 y2 h
 obtain ⟨e3, h⟩ := num_cut x3 y3 h
 obtain ⟨e4, h⟩ := num_cut x4 y4 h
 obtain ⟨e5, h⟩ := text_cut x5 y5 h
 exact ⟨by cases x; cases y; simp only at e0 e1 e2 e3 e4 e5; subst e0; subst e1; subst e2; subst e3; subst e4; subst e5; rfl, h⟩
theorem cB_in (b : Bool) : In (cB b) := by cases b <;> exact ⟨by decide, by decide⟩
theorem cB_inj {a b : Bool} (h : cB a = cB b) : a = b := by cases a <;> cases b <;> first | rfl | exact absurd h (by decide)
theorem node_cut {x y : N} {r t : ByteArray} (hx : okN x) (hy : okN y) (h : nodeB x ++ r = nodeB y ++ t) : x = y ∧ r = t := by
 obtain ⟨x0, x1, x2, x3⟩ := hx
 obtain ⟨y0, y1, y2, y3⟩ := hy
 unfold nodeB at h
 simp only [ByteArray.append_assoc] at h
 obtain ⟨e0, h⟩ := text_cut x0 y0 h
 obtain ⟨e1, h⟩ := num_cut x1 y1 h
 obtain ⟨e2, h⟩ := num_cut x2 y2 h
 obtain ⟨e3, h⟩ := text_cut x3 y3 h
 obtain ⟨e4', h⟩ := num_cut (cB_in _) (cB_in _) h
 have e4 := cB_inj e4'
 clear e4' x0 x1 x2 x3 y0 y1 y2 y3
 exact ⟨by cases x; cases y; simp only at e0 e1 e2 e3 e4; subst e0; subst e1; subst e2; subst e3; subst e4; rfl, h⟩
theorem cat_cut {α : Type} {f : α → ByteArray} {p : α → Prop} (hf : ∀ x y r t, p x → p y → f x ++ r = f y ++ t → x = y ∧ r = t) : ∀ (l m : List α) (r t : ByteArray), l.length = m.length → (∀ x ∈ l, p x) → (∀ x ∈ m, p x) → catB f l ++ r = catB f m ++ t → l = m ∧ r = t
 | [], [], r, t, _, _, _, h => ⟨rfl, by simpa [catB, ByteArray.empty_append] using h⟩
 | x :: l, y :: m, r, t, hl, h1, h2, h => by
   unfold catB at h
   rw [ByteArray.append_assoc, ByteArray.append_assoc] at h
   obtain ⟨e, h⟩ := hf x y _ _ (h1 x List.mem_cons_self) (h2 y List.mem_cons_self) h
   obtain ⟨e2, h⟩ := cat_cut hf l m r t (by simpa using hl) (fun z hz => h1 z (List.mem_cons_of_mem _ hz)) (fun z hz => h2 z (List.mem_cons_of_mem _ hz)) h
   exact ⟨by rw [e, e2], h⟩
theorem len_in {α : Type} (l : List α) (h : l.length ≤ 1000) : In (l.length : Int) := ⟨by omega, by omega⟩
theorem state_inj {e e' : Int} {ws ws' : List W} {ns ns' : List N} (he : In e) (he' : In e') (hw : ws.length ≤ 8) (hw' : ws'.length ≤ 8) (hn : ns.length ≤ 8) (hn' : ns'.length ≤ 8) (w1 : ∀ x ∈ ws, okW x) (w2 : ∀ x ∈ ws', okW x) (n1 : ∀ x ∈ ns, okN x) (n2 : ∀ x ∈ ns', okN x) : stateB e ws ns = stateB e' ws' ns' ↔ e = e' ∧ ws = ws' ∧ ns = ns' := by
 constructor
 ·intro h
  unfold stateB at h
  simp only [ByteArray.append_assoc] at h
  obtain ⟨a, h⟩ := num_cut he he' h
  obtain ⟨b, h⟩ := num_cut (len_in ws (by omega)) (len_in ws' (by omega)) h
  obtain ⟨c, h⟩ := cat_cut (fun x y r t => work_cut) ws ws' _ _ (by omega) w1 w2 h
  obtain ⟨d, h⟩ := num_cut (len_in ns (by omega)) (len_in ns' (by omega)) h
  obtain ⟨f, _⟩ := cat_cut (fun x y r t => node_cut) ns ns' ByteArray.empty ByteArray.empty (by omega) n1 n2 (by rw [h])
  exact ⟨a, c, f⟩
 ·rintro ⟨rfl, rfl, rfl⟩; rfl
/-- an operation as bytes -/
def opB (k : Int) (x : W) (y : N) (id : ByteArray) (want : Int) : ByteArray := if k = 1 then num k ++ workB x else if k = 4 then num k ++ nodeB y else if k = 2 then num k ++ (text id ++ num want) else if k = 8 then num k else num k ++ text id
/-- what is taken up of one -/
def gX (k : Int) (x : W) : W := if k = 1 then x else Lk.zW
def gY (k : Int) (y : N) : N := if k = 4 then y else Lk.zN
def gI (k : Int) (id : ByteArray) : ByteArray := if k = 1 ∨ k = 4 ∨ k = 8 then ⟨#[]⟩ else id
def gV (k want : Int) : Int := if k = 2 then want else 0
theorem op_again {k : Int} {x : W} {y : N} {id : ByteArray} {want : Int} : opB k (gX k x) (gY k y) (gI k id) (gV k want) = opB k x y id want := by
 unfold opB
 by_cases k1 : k = 1
 ·rw [if_pos k1, if_pos k1]; unfold gX; rw [if_pos k1]
 rw [if_neg k1, if_neg k1]
 by_cases k4 : k = 4
 ·rw [if_pos k4, if_pos k4]; unfold gY; rw [if_pos k4]
 rw [if_neg k4, if_neg k4]
 by_cases k2 : k = 2
 ·rw [if_pos k2, if_pos k2]; unfold gI gV; rw [if_neg (by omega), if_pos k2]
 rw [if_neg k2, if_neg k2]
 by_cases k8 : k = 8
 ·rw [if_pos k8, if_pos k8]
 rw [if_neg k8, if_neg k8]; unfold gI; rw [if_neg (by omega)]
theorem op_right {k : Int} {x : W} {y : N} {id : ByteArray} {want : Int} (h : rightO k x y id want = true) : rightO k (gX k x) (gY k y) (gI k id) (gV k want) = true := by
 have hk := Go.Proofs.YtldlkbjbfgieeaaGreatDoor.Ap.op_range h
 rcases (show k = 1 ∨ k = 2 ∨ k = 3 ∨ k = 4 ∨ k = 5 ∨ k = 6 ∨ k = 7 ∨ k = 8 from by omega) with rfl | rfl | rfl | rfl | rfl | rfl | rfl | rfl <;> exact h
end Go.Proofs.YtldlkbjbfgieeaaGreatDoor.Pk
