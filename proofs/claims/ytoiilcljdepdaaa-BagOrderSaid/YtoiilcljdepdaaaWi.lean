/- A bag's with. -/
import Derived.Test.YtoiilcljdepdaaaTk
namespace Go.Proofs.Ytoiilcljdepdaaa.Bg
set_option linter.unusedVariables false
set_option linter.unusedSimpArgs false
open Go.RowKit Go.Proofs.YtoiilcljdepdaaaW.PrintWords Go.Proofs.YtoiilcljdepdaaaW.PrintLast Go.Proofs.YtoiilcljdepdaaaW.PrintMore Go.Proofs.Ytoiilcljdepdaaa.PBagPlays
attribute [local go_sem] max2_int min2_int max_two min_two max_three min_three max_four min_four
theorem with_no (f : Value) (g : Nat) (v : Value) (xs : List ByteArray) (i : Int) (w0 w : World) (h : Bg 43 w0 w g v xs) (hi : i < 0 ∨ (xs.length : Int) ≤ i) :
    Calls Try.prog 23 #[.pointer (some ⟨g, 0, none⟩), .int .i64 i, f] w fun e w' => e = .returned (.bool false) ∧ w = w' := by
  obtain ⟨hb, hg, hR⟩ := h
  obtain ⟨A, c, rfl⟩ := Kd.R_slice hR
  have hc := (blk_cell hb 0).trans rfl
  by_cases h0 : 0 ≤ i
  · have d1 : decide (i ≥ 0) = true := by simp; omega
    have d2 : decide (i < (xs.length : Int)) = false := by simp; omega
    go_enter Try.func23, Try.ntmps23
    go_wp2_with fail
    go_ret
    exact ⟨rfl, rfl⟩
  · have d1 : decide (i ≥ 0) = false := by simp; omega
    go_enter Try.func23, Try.ntmps23
    go_wp2_with fail
    go_ret
    exact ⟨rfl, rfl⟩
/-- the element at i -/
theorem elem_at {w0 w : World} {g : Nat} {A : Option Addr} {c : Nat} {xs : List ByteArray} {t : Nat} (h : Bg t w0 w g (.slice A xs.length c) xs) (i : Nat) {x : ByteArray} (hx : xs[i]? = some x) : ∃ b, A = some ⟨b, 0, none⟩ ∧ w.cell? ⟨b, i, none⟩ = some (.string x) ∧ (0 : Int) ≤ (i : Int) ∧ (i : Int) < (xs.length : Int) := by
  have hi : i < xs.length := by rw [List.getElem?_eq_some_iff] at hx; exact hx.1
  obtain ⟨hb, hg, hR⟩ := h
  obtain ⟨b, cap, he, _, _, _⟩ := Kd.R_form hR (by omega)
  injection he with hA _ hc
  subst hA hc
  have h1 := (Kd.R_cell (enc := Value.string) ByteArray.empty hR (i : Int) (by omega) (by omega)).1
  rw [rdOf, Int.toNat_natCast, List.getD_eq_getElem?_getD, hx] at h1
  exact ⟨b, rfl, h1, by omega, by omega⟩
theorem with_yes27 (o g : Nat) (v : Value) (xs : List ByteArray) (i : Nat) (x : ByteArray) (w0 w : World) (h : Bg 43 w0 w g v xs) (hx : xs[i]? = some x) (r : Bool) (Q : World → Prop)
    (hcK : Calls Try.prog 27 #[.string x, .pointer (some ⟨o, 0, none⟩)] w fun e w' => e = .returned (.bool r) ∧ Q w') :
    Calls Try.prog 23 #[.pointer (some ⟨g, 0, none⟩), .int .i64 i, .func (.func 27) #[] #[.pointer (some ⟨o, 0, none⟩)]] w fun e w' => e = .returned (.bool r) ∧ Q w' := by
  obtain ⟨A, c, rfl⟩ := Kd.R_slice h.2.2
  obtain ⟨b, rfl, hx, n0, n1⟩ := elem_at h i hx
  obtain ⟨hb, hg, hR⟩ := h
  have hc := (blk_cell hb 0).trans rfl
  have d1 : decide ((i : Int) ≥ 0) = true := by simp
  have d2 : decide ((i : Int) < (xs.length : Int)) = true := by simp; omega
  have e1 : (i : Int).toNat = i := Int.toNat_natCast i
  go_enter Try.func23, Try.ntmps23
  go_wp2_with (go_at_call 27; refine hcK.mono ?_; rintro e w2 ⟨rfl, hQ⟩)
  go_ret
  exact ⟨rfl, hQ⟩
theorem with_yes24 (o p q g : Nat) (v : Value) (xs : List ByteArray) (i : Nat) (x : ByteArray) (w0 w : World) (h : Bg 43 w0 w g v xs) (hx : xs[i]? = some x) (r : Bool) (Q : World → Prop)
    (hcK : Calls Try.prog 24 #[.string x, .pointer (some ⟨o, 0, none⟩), .pointer (some ⟨p, 0, none⟩), .pointer (some ⟨q, 0, none⟩)] w fun e w' => e = .returned (.bool r) ∧ Q w') :
    Calls Try.prog 23 #[.pointer (some ⟨g, 0, none⟩), .int .i64 i, .func (.func 24) #[] #[.pointer (some ⟨o, 0, none⟩), .pointer (some ⟨p, 0, none⟩), .pointer (some ⟨q, 0, none⟩)]] w fun e w' => e = .returned (.bool r) ∧ Q w' := by
  obtain ⟨A, c, rfl⟩ := Kd.R_slice h.2.2
  obtain ⟨b, rfl, hx, n0, n1⟩ := elem_at h i hx
  obtain ⟨hb, hg, hR⟩ := h
  have hc := (blk_cell hb 0).trans rfl
  have d1 : decide ((i : Int) ≥ 0) = true := by simp
  have d2 : decide ((i : Int) < (xs.length : Int)) = true := by simp; omega
  have e1 : (i : Int).toNat = i := Int.toNat_natCast i
  go_enter Try.func23, Try.ntmps23
  go_wp2_with (go_at_call 24; refine hcK.mono ?_; rintro e w2 ⟨rfl, hQ⟩)
  go_ret
  exact ⟨rfl, hQ⟩
theorem with_yes26 (p q g : Nat) (v : Value) (xs : List ByteArray) (i : Nat) (x : ByteArray) (w0 w : World) (h : Bg 43 w0 w g v xs) (hx : xs[i]? = some x) (r : Bool) (Q : World → Prop)
    (hcK : Calls Try.prog 26 #[.string x, .pointer (some ⟨p, 0, none⟩), .pointer (some ⟨q, 0, none⟩)] w fun e w' => e = .returned (.bool r) ∧ Q w') :
    Calls Try.prog 23 #[.pointer (some ⟨g, 0, none⟩), .int .i64 i, .func (.func 26) #[] #[.pointer (some ⟨p, 0, none⟩), .pointer (some ⟨q, 0, none⟩)]] w fun e w' => e = .returned (.bool r) ∧ Q w' := by
  obtain ⟨A, c, rfl⟩ := Kd.R_slice h.2.2
  obtain ⟨b, rfl, hx, n0, n1⟩ := elem_at h i hx
  obtain ⟨hb, hg, hR⟩ := h
  have hc := (blk_cell hb 0).trans rfl
  have d1 : decide ((i : Int) ≥ 0) = true := by simp
  have d2 : decide ((i : Int) < (xs.length : Int)) = true := by simp; omega
  have e1 : (i : Int).toNat = i := Int.toNat_natCast i
  go_enter Try.func23, Try.ntmps23
  go_wp2_with (go_at_call 26; refine hcK.mono ?_; rintro e w2 ⟨rfl, hQ⟩)
  go_ret
  exact ⟨rfl, hQ⟩
theorem with_yes11 (g : Nat) (v : Value) (xs : List ByteArray) (i : Nat) (x : ByteArray) (w0 w : World) (h : Bg 43 w0 w g v xs) (hx : xs[i]? = some x) (r : Bool) (Q : World → Prop)
    (hcK : Calls Try.prog 11 #[.pointer (some ⟨g, 0, none⟩), .string x] w fun e w' => e = .returned (.bool r) ∧ Q w') :
    Calls Try.prog 23 #[.pointer (some ⟨g, 0, none⟩), .int .i64 i, .func (.func 11) #[.pointer (some ⟨g, 0, none⟩)] #[]] w fun e w' => e = .returned (.bool r) ∧ Q w' := by
  obtain ⟨A, c, rfl⟩ := Kd.R_slice h.2.2
  obtain ⟨b, rfl, hx, n0, n1⟩ := elem_at h i hx
  obtain ⟨hb, hg, hR⟩ := h
  have hc := (blk_cell hb 0).trans rfl
  have d1 : decide ((i : Int) ≥ 0) = true := by simp
  have d2 : decide ((i : Int) < (xs.length : Int)) = true := by simp; omega
  have e1 : (i : Int).toNat = i := Int.toNat_natCast i
  go_enter Try.func23, Try.ntmps23
  go_wp2_with (go_at_call 11; refine hcK.mono ?_; rintro e w2 ⟨rfl, hQ⟩)
  go_ret
  exact ⟨rfl, hQ⟩
end Go.Proofs.Ytoiilcljdepdaaa.Bg
