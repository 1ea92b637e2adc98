/- Both bags at once: their operations. -/
import Derived.Test.YtoiilcljdepdaaaRf
namespace Go.Proofs.Ytoiilcljdepdaaa.Bg
set_option linter.unusedVariables false
set_option linter.unusedSimpArgs false
open Go.RowKit Go.Proofs.YtoiilcljdepdaaaW.PrintWords Go.Proofs.YtoiilcljdepdaaaW.PrintLast Go.Proofs.YtoiilcljdepdaaaW.PrintMore Go.Proofs.Ytoiilcljdepdaaa.PBagPlays
attribute [local go_sem] max2_int min2_int max_two min_two max_three min_three max_four min_four
/-- is there an i -/
def lookB (xs : List ByteArray) (i : Int) : Bool := decide (0 ≤ i ∧ i < xs.length)
def lookS (xs : List ByteArray) (i : Int) : ByteArray := if 0 ≤ i ∧ i < xs.length then xs.getD i.toNat ⟨#[]⟩ else ⟨#[]⟩
def rmL (xs : List ByteArray) (i : Int) : List ByteArray := if 0 ≤ i ∧ i < xs.length then xs.eraseIdx i.toNat else xs
def cpB (xs : List ByteArray) (i : Int) : Bool := lookB xs i && decide (xs.length < 64)
def cpL (xs : List ByteArray) (i : Int) : List ByteArray := if 0 ≤ i ∧ i < xs.length then sent xs (lookS xs i) else xs
theorem no_of {xs : List ByteArray} {i : Int} (h : ¬ (0 ≤ i ∧ i < xs.length)) : i < 0 ∨ (xs.length : Int) ≤ i := by omega
theorem yes_of {xs : List ByteArray} {i : Int} (h : 0 ≤ i ∧ i < xs.length) : ∃ n : Nat, i = n ∧ xs[n]? = some (lookS xs i) := by
  refine ⟨i.toNat, by omega, ?_⟩
  unfold lookS
  rw [if_pos h, List.getD_eq_getElem?_getD]
  have : i.toNat < xs.length := by omega
  rw [List.getElem?_eq_getElem this]; rfl
theorem Look_any (g : Nat) (v : Value) (xs : List ByteArray) (i : Int) (w0 w : World) (h : Bg 43 w0 w g v xs) (hB : Below w0.heap.size w0 w) :
    Calls Try.prog 19 #[.pointer (some ⟨g, 0, none⟩), .int .i64 i] w fun e w' => e = .returned (.tuple #[.string (lookS xs i), .bool (lookB xs i)]) ∧ Below w.heap.size w w' := by
  by_cases hi : 0 ≤ i ∧ i < xs.length
  · obtain ⟨n, rfl, hx⟩ := yes_of hi
    have := Look_yes g v xs n _ w0 w h hB hx
    unfold lookB; rw [decide_eq_true hi]; exact this
  · have := Look_no g v xs i w0 w h (no_of hi)
    unfold lookB lookS; rw [decide_eq_false hi, if_neg hi]; exact this
theorem Take_any (g : Nat) (v : Value) (xs : List ByteArray) (i : Int) (w0 w : World) (h : Bg 43 w0 w g v xs) (hB : Below w0.heap.size w0 w) :
    Calls Try.prog 13 #[.pointer (some ⟨g, 0, none⟩), .int .i64 i] w fun e w' => e = .returned (.tuple #[.string (lookS xs i), .bool (lookB xs i)]) ∧ Does 43 w0 w w' g v (rmL xs i) := by
  by_cases hi : 0 ≤ i ∧ i < xs.length
  · obtain ⟨n, rfl, hx⟩ := yes_of hi
    have := Take_yes g v xs n _ w0 w h hB hx
    unfold lookB rmL; rw [decide_eq_true hi, if_pos hi, Int.toNat_natCast]; exact this
  · have := Take_no g v xs i w0 w h hB (no_of hi)
    unfold lookB lookS rmL; rw [decide_eq_false hi, if_neg hi, if_neg hi]; exact this
theorem Drop_any (g : Nat) (v : Value) (xs : List ByteArray) (i : Int) (w0 w : World) (h : Bg 43 w0 w g v xs) (hB : Below w0.heap.size w0 w) :
    Calls Try.prog 17 #[.pointer (some ⟨g, 0, none⟩), .int .i64 i] w fun e w' => e = .returned (.bool (lookB xs i)) ∧ Does 43 w0 w w' g v (rmL xs i) := by
  by_cases hi : 0 ≤ i ∧ i < xs.length
  · obtain ⟨n, rfl, hx⟩ := yes_of hi
    have := Drop_yes g v xs n _ w0 w h hB hx
    unfold lookB rmL; rw [decide_eq_true hi, if_pos hi, Int.toNat_natCast]; exact this
  · have := Drop_no g v xs i w0 w h hB (no_of hi)
    unfold lookB rmL; rw [decide_eq_false hi, if_neg hi]; exact this
theorem Copy_any (g : Nat) (v : Value) (xs : List ByteArray) (i : Int) (w0 w : World) (h : Bg 43 w0 w g v xs) (hB : Below w0.heap.size w0 w) :
    Calls Try.prog 15 #[.pointer (some ⟨g, 0, none⟩), .int .i64 i] w fun e w' => e = .returned (.bool (cpB xs i)) ∧ Does 43 w0 w w' g v (cpL xs i) := by
  by_cases hi : 0 ≤ i ∧ i < xs.length
  · obtain ⟨n, rfl, hx⟩ := yes_of hi
    have := Copy_yes g v xs n _ w0 w h hB hx (decide (xs.length < 64)) _ (Send_any g v xs _ w0 w h hB)
    unfold cpB lookB cpL; rw [decide_eq_true hi, if_pos hi, Bool.true_and]; exact this
  · have := Copy_no g v xs i w0 w h hB (no_of hi)
    unfold cpB lookB cpL; rw [decide_eq_false hi, if_neg hi]; exact this
theorem rLook_any (g : Nat) (v : Value) (xs : List ByteArray) (i : Int) (w0 w : World) (h : Bg 45 w0 w g v xs) (hB : Below w0.heap.size w0 w) :
    Calls Try.prog 20 #[.pointer (some ⟨g, 0, none⟩), .int .i64 i] w fun e w' => e = .returned (.tuple #[.string (lookS xs i), .bool (lookB xs i)]) ∧ Below w.heap.size w w' := by
  by_cases hi : 0 ≤ i ∧ i < xs.length
  · obtain ⟨n, rfl, hx⟩ := yes_of hi
    have := rLook_yes g v xs n _ w0 w h hx
    unfold lookB; rw [decide_eq_true hi]; exact this
  · have := rLook_no g v xs i w0 w h (no_of hi)
    unfold lookB lookS; rw [decide_eq_false hi, if_neg hi]; exact this
theorem rTake_any (g : Nat) (v : Value) (xs : List ByteArray) (i : Int) (w0 w : World) (h : Bg 45 w0 w g v xs) (hB : Below w0.heap.size w0 w) (hl : xs.length ≤ 64) :
    Calls Try.prog 14 #[.pointer (some ⟨g, 0, none⟩), .int .i64 i] w fun e w' => e = .returned (.tuple #[.string (lookS xs i), .bool (lookB xs i)]) ∧ Does 45 w0 w w' g v (rmL xs i) := by
  by_cases hi : 0 ≤ i ∧ i < xs.length
  · obtain ⟨n, rfl, hx⟩ := yes_of hi
    have := rTake_yes g v xs n _ w0 w h hB hx hl
    unfold lookB rmL; rw [decide_eq_true hi, if_pos hi, Int.toNat_natCast]; exact this
  · have := rTake_no g v xs i w0 w h hB (no_of hi)
    unfold lookB lookS rmL; rw [decide_eq_false hi, if_neg hi, if_neg hi]; exact this
theorem rDrop_any (g : Nat) (v : Value) (xs : List ByteArray) (i : Int) (w0 w : World) (h : Bg 45 w0 w g v xs) (hB : Below w0.heap.size w0 w) (hl : xs.length ≤ 64) :
    Calls Try.prog 18 #[.pointer (some ⟨g, 0, none⟩), .int .i64 i] w fun e w' => e = .returned (.bool (lookB xs i)) ∧ Does 45 w0 w w' g v (rmL xs i) := by
  by_cases hi : 0 ≤ i ∧ i < xs.length
  · obtain ⟨n, rfl, hx⟩ := yes_of hi
    have := rDrop_yes g v xs n _ w0 w h hB hx hl
    unfold lookB rmL; rw [decide_eq_true hi, if_pos hi, Int.toNat_natCast]; exact this
  · have := rDrop_no g v xs i w0 w h hB (no_of hi)
    unfold lookB rmL; rw [decide_eq_false hi, if_neg hi]; exact this
theorem rCopy_any (g : Nat) (v : Value) (xs : List ByteArray) (i : Int) (w0 w : World) (h : Bg 45 w0 w g v xs) (hB : Below w0.heap.size w0 w) :
    Calls Try.prog 16 #[.pointer (some ⟨g, 0, none⟩), .int .i64 i] w fun e w' => e = .returned (.bool (cpB xs i)) ∧ Does 45 w0 w w' g v (cpL xs i) := by
  by_cases hi : 0 ≤ i ∧ i < xs.length
  · obtain ⟨n, rfl, hx⟩ := yes_of hi
    have := rCopy_yes g v xs n _ w0 w h hB hx
    unfold cpB lookB cpL; rw [decide_eq_true hi, if_pos hi, Bool.true_and]; exact this
  · have := rCopy_no g v xs i w0 w h hB (no_of hi)
    unfold cpB lookB cpL; rw [decide_eq_false hi, if_neg hi]; exact this
/-- one bag -/
def One (w0 W : World) (g : Nat) (xs : List ByteArray) : Prop := ∃ v, Bg 43 w0 W g v xs
/-- both bags -/
def Two (w0 W : World) (ga gb : Nat) (xs ys : List ByteArray) : Prop := ∃ va vb, Bg 43 w0 W ga va xs ∧ Bg 45 w0 W gb vb ys ∧ ∀ b, va.ownBlock = some b → vb.ownBlock ≠ some b
/-- blocks of other types stay -/
def KeepT (W W' : World) : Prop := ∀ (o : Nat) (cs : Array Value) (t : TypeId) (fr : Nat × Nat), t ≠ 43 → t ≠ 45 → t ≠ 9 → W.heap[o]? = some (Obj.cells cs t fr) → W'.heap[o]? = some (Obj.cells cs t fr)
theorem KeepT.below {W W' : World} (h : Below W.heap.size W W') : KeepT W W' := fun o cs t fr _ _ _ ho => (h.block o (blk_lt ho)).trans ho
theorem One.below {w0 W W' : World} {g : Nat} {xs : List ByteArray} (h : One w0 W g xs) (hb : Below W.heap.size W W') : One w0 W' g xs := h.imp fun _ h => Bg.below h hb
theorem Two.below {w0 W W' : World} {ga gb : Nat} {xs ys : List ByteArray} (h : Two w0 W ga gb xs ys) (hb : Below W.heap.size W W') : Two w0 W' ga gb xs ys := by
  obtain ⟨va, vb, h1, h2, h3⟩ := h
  exact ⟨va, vb, Bg.below h1 hb, Bg.below h2 hb, h3⟩
theorem Does.keepT {t : Nat} {w0 w w' : World} {g : Nat} {v : Value} {xs xs' : List ByteArray} (h : Bg t w0 w g v xs) (ht : t = 43 ∨ t = 45) (hd : Does t w0 w w' g v xs') : KeepT w w' := by
  intro o cs t' fr n1 n2 n3 ho
  obtain ⟨_, _, hs, hk⟩ := hd
  rw [hk o (blk_lt ho) ?_ ?_]; exact ho
  · rintro rfl
    rw [h.1] at ho; injection ho with ho; injection ho with _ ho
    rcases ht with e | e
    · exact n1 (ho.symm.trans e)
    · exact n2 (ho.symm.trans e)
  · intro e
    obtain ⟨cells, hc⟩ := Kd.R_typed h.2.2 o e.symm
    rw [hc] at ho; injection ho with ho; injection ho with _ ho
    exact n3 ho.symm
theorem Does.other {t t' : Nat} {w0 w w' : World} {g g' : Nat} {v v' : Value} {xs xs' ys : List ByteArray} (h : Bg t w0 w g v xs) (h' : Bg t' w0 w g' v' ys) (ht : t ≠ t') (hts : t ≠ 9) (hts' : t' ≠ 9) (hap : ∀ b, v.ownBlock = some b → v'.ownBlock ≠ some b) (hd : Does t w0 w w' g v xs') :
    Bg t' w0 w' g' v' ys ∧ ∃ v1, Bg t w0 w' g v1 xs' ∧ ∀ b, v1.ownBlock = some b → v'.ownBlock ≠ some b := by
  obtain ⟨⟨v1, hb1, ho1⟩, hB, hs, hk⟩ := hd
  have hgg : g' ≠ g := by
    rintro rfl
    have := h.1; rw [h'.1] at this; injection this with this; injection this with _ this; exact ht this.symm
  have hgv : some g' ≠ v.ownBlock := fun e => by
    obtain ⟨cells, hc⟩ := Kd.R_typed h.2.2 g' e.symm
    rw [h'.1] at hc; injection hc with hc; injection hc with _ hc; exact hts' hc
  refine ⟨⟨(hk g' (blk_lt h'.1) hgg hgv).trans h'.1, h'.2.1, ?_⟩, v1, hb1, fun b hb e => ?_⟩
  · have h1 := Kd.R_tight2 rfl h'.2.2
    refine Kd.R_mono (Kd.R_step h1 (fun k hk1 hlt => hk k hlt ?_ ?_)) (fun k hk1 => hk1.2)
    · rintro rfl
      obtain ⟨cells, hc⟩ := Kd.R_typed h'.2.2 k hk1.1.symm
      rw [h.1] at hc; injection hc with hc; injection hc with _ hc; exact hts hc
    · intro e
      exact hap k e.symm hk1.1.symm
  · rcases ho1 b hb with hv | hn
    · exact hap b hv e
    · have := Kd.R_lt h'.2.2 b e
      omega
theorem One.step {w0 w w' : World} {g : Nat} {v : Value} {xs xs' : List ByteArray} (h : Bg 43 w0 w g v xs) (hd : Does 43 w0 w w' g v xs') : One w0 w' g xs' ∧ Below w0.heap.size w0 w' ∧ KeepT w w' := ⟨⟨_, hd.1.choose_spec.1⟩, hd.2.1, Does.keepT h (.inl rfl) hd⟩
theorem Two.stepA {w0 w w' : World} {ga gb : Nat} {va vb : Value} {xs ys xs' : List ByteArray} (h : Bg 43 w0 w ga va xs) (h' : Bg 45 w0 w gb vb ys) (hap : ∀ b, va.ownBlock = some b → vb.ownBlock ≠ some b) (hd : Does 43 w0 w w' ga va xs') : Two w0 w' ga gb xs' ys ∧ Below w0.heap.size w0 w' ∧ KeepT w w' := by
  obtain ⟨h2, v1, h1, ha⟩ := Does.other h h' (by decide) (by decide) (by decide) hap hd
  exact ⟨⟨v1, vb, h1, h2, ha⟩, hd.2.1, Does.keepT h (.inl rfl) hd⟩
theorem Two.stepB {w0 w w' : World} {ga gb : Nat} {va vb : Value} {xs ys ys' : List ByteArray} (h : Bg 43 w0 w ga va xs) (h' : Bg 45 w0 w gb vb ys) (hap : ∀ b, va.ownBlock = some b → vb.ownBlock ≠ some b) (hd : Does 45 w0 w w' gb vb ys') : Two w0 w' ga gb xs ys' ∧ Below w0.heap.size w0 w' ∧ KeepT w w' := by
  obtain ⟨h2, v1, h1, ha⟩ := Does.other h' h (by decide) (by decide) (by decide) (fun b hb e => hap b e hb) hd
  exact ⟨⟨va, v1, h2, h1, fun b hb e => ha b e hb⟩, hd.2.1, Does.keepT h' (.inr rfl) hd⟩
theorem Send1 (g : Nat) (xs : List ByteArray) (x : ByteArray) (w0 w : World) (h : One w0 w g xs) (hB : Below w0.heap.size w0 w) :
    Calls Try.prog 11 #[.pointer (some ⟨g, 0, none⟩), .string x] w fun e w' => e = .returned (.bool (decide (xs.length < 64))) ∧ One w0 w' g (sent xs x) ∧ Below w0.heap.size w0 w' ∧ KeepT w w' := by
  obtain ⟨v, h⟩ := h
  refine (Send_any g v xs x w0 w h hB).mono ?_
  rintro e w' ⟨rfl, hd⟩
  exact ⟨rfl, One.step h hd⟩
theorem Take1 (g : Nat) (xs : List ByteArray) (i : Int) (w0 w : World) (h : One w0 w g xs) (hB : Below w0.heap.size w0 w) :
    Calls Try.prog 13 #[.pointer (some ⟨g, 0, none⟩), .int .i64 i] w fun e w' => e = .returned (.tuple #[.string (lookS xs i), .bool (lookB xs i)]) ∧ One w0 w' g (rmL xs i) ∧ Below w0.heap.size w0 w' ∧ KeepT w w' := by
  obtain ⟨v, h⟩ := h
  refine (Take_any g v xs i w0 w h hB).mono ?_
  rintro e w' ⟨rfl, hd⟩
  exact ⟨rfl, One.step h hd⟩
theorem Drop1 (g : Nat) (xs : List ByteArray) (i : Int) (w0 w : World) (h : One w0 w g xs) (hB : Below w0.heap.size w0 w) :
    Calls Try.prog 17 #[.pointer (some ⟨g, 0, none⟩), .int .i64 i] w fun e w' => e = .returned (.bool (lookB xs i)) ∧ One w0 w' g (rmL xs i) ∧ Below w0.heap.size w0 w' ∧ KeepT w w' := by
  obtain ⟨v, h⟩ := h
  refine (Drop_any g v xs i w0 w h hB).mono ?_
  rintro e w' ⟨rfl, hd⟩
  exact ⟨rfl, One.step h hd⟩
theorem Copy1 (g : Nat) (xs : List ByteArray) (i : Int) (w0 w : World) (h : One w0 w g xs) (hB : Below w0.heap.size w0 w) :
    Calls Try.prog 15 #[.pointer (some ⟨g, 0, none⟩), .int .i64 i] w fun e w' => e = .returned (.bool (cpB xs i)) ∧ One w0 w' g (cpL xs i) ∧ Below w0.heap.size w0 w' ∧ KeepT w w' := by
  obtain ⟨v, h⟩ := h
  refine (Copy_any g v xs i w0 w h hB).mono ?_
  rintro e w' ⟨rfl, hd⟩
  exact ⟨rfl, One.step h hd⟩
theorem Look1 (g : Nat) (xs : List ByteArray) (i : Int) (w0 w : World) (h : One w0 w g xs) (hB : Below w0.heap.size w0 w) :
    Calls Try.prog 19 #[.pointer (some ⟨g, 0, none⟩), .int .i64 i] w fun e w' => e = .returned (.tuple #[.string (lookS xs i), .bool (lookB xs i)]) ∧ One w0 w' g (xs) ∧ Below w0.heap.size w0 w' ∧ KeepT w w' := by
  have hh := h
  obtain ⟨v, h⟩ := h
  refine (Look_any g v xs i w0 w h hB).mono ?_
  rintro e w' ⟨rfl, hb⟩
  exact ⟨rfl, hh.below hb, hB.trans (hb.mono hB.size), KeepT.below hb⟩
theorem Len1 (g : Nat) (xs : List ByteArray) (w0 w : World) (h : One w0 w g xs) :
    Calls Try.prog 21 #[.pointer (some ⟨g, 0, none⟩)] w fun e w' => e = .returned (.int .i64 xs.length) ∧ w = w' := by
  obtain ⟨v, h⟩ := h
  exact Len_any g v xs w0 w h
theorem Send2 (ga gb : Nat) (xs ys : List ByteArray) (x : ByteArray) (w0 w : World) (h : Two w0 w ga gb xs ys) (hB : Below w0.heap.size w0 w) :
    Calls Try.prog 11 #[.pointer (some ⟨ga, 0, none⟩), .string x] w fun e w' => e = .returned (.bool (decide (xs.length < 64))) ∧ Two w0 w' ga gb (sent xs x) ys ∧ Below w0.heap.size w0 w' ∧ KeepT w w' := by
  obtain ⟨va, vb, h, h', hap⟩ := h
  refine (Send_any ga va xs x w0 w h hB).mono ?_
  rintro e w' ⟨rfl, hd⟩
  exact ⟨rfl, Two.stepA h h' hap hd⟩
theorem Take2 (ga gb : Nat) (xs ys : List ByteArray) (i : Int) (w0 w : World) (h : Two w0 w ga gb xs ys) (hB : Below w0.heap.size w0 w) :
    Calls Try.prog 13 #[.pointer (some ⟨ga, 0, none⟩), .int .i64 i] w fun e w' => e = .returned (.tuple #[.string (lookS xs i), .bool (lookB xs i)]) ∧ Two w0 w' ga gb (rmL xs i) ys ∧ Below w0.heap.size w0 w' ∧ KeepT w w' := by
  obtain ⟨va, vb, h, h', hap⟩ := h
  refine (Take_any ga va xs i w0 w h hB).mono ?_
  rintro e w' ⟨rfl, hd⟩
  exact ⟨rfl, Two.stepA h h' hap hd⟩
theorem Drop2 (ga gb : Nat) (xs ys : List ByteArray) (i : Int) (w0 w : World) (h : Two w0 w ga gb xs ys) (hB : Below w0.heap.size w0 w) :
    Calls Try.prog 17 #[.pointer (some ⟨ga, 0, none⟩), .int .i64 i] w fun e w' => e = .returned (.bool (lookB xs i)) ∧ Two w0 w' ga gb (rmL xs i) ys ∧ Below w0.heap.size w0 w' ∧ KeepT w w' := by
  obtain ⟨va, vb, h, h', hap⟩ := h
  refine (Drop_any ga va xs i w0 w h hB).mono ?_
  rintro e w' ⟨rfl, hd⟩
  exact ⟨rfl, Two.stepA h h' hap hd⟩
theorem Copy2 (ga gb : Nat) (xs ys : List ByteArray) (i : Int) (w0 w : World) (h : Two w0 w ga gb xs ys) (hB : Below w0.heap.size w0 w) :
    Calls Try.prog 15 #[.pointer (some ⟨ga, 0, none⟩), .int .i64 i] w fun e w' => e = .returned (.bool (cpB xs i)) ∧ Two w0 w' ga gb (cpL xs i) ys ∧ Below w0.heap.size w0 w' ∧ KeepT w w' := by
  obtain ⟨va, vb, h, h', hap⟩ := h
  refine (Copy_any ga va xs i w0 w h hB).mono ?_
  rintro e w' ⟨rfl, hd⟩
  exact ⟨rfl, Two.stepA h h' hap hd⟩
theorem Look2 (ga gb : Nat) (xs ys : List ByteArray) (i : Int) (w0 w : World) (h : Two w0 w ga gb xs ys) (hB : Below w0.heap.size w0 w) :
    Calls Try.prog 19 #[.pointer (some ⟨ga, 0, none⟩), .int .i64 i] w fun e w' => e = .returned (.tuple #[.string (lookS xs i), .bool (lookB xs i)]) ∧ Two w0 w' ga gb (xs) ys ∧ Below w0.heap.size w0 w' ∧ KeepT w w' := by
  have hh := h
  obtain ⟨va, vb, h, h', hap⟩ := h
  refine (Look_any ga va xs i w0 w h hB).mono ?_
  rintro e w' ⟨rfl, hb⟩
  exact ⟨rfl, hh.below hb, hB.trans (hb.mono hB.size), KeepT.below hb⟩
theorem Len2 (ga gb : Nat) (xs ys : List ByteArray) (w0 w : World) (h : Two w0 w ga gb xs ys) :
    Calls Try.prog 21 #[.pointer (some ⟨ga, 0, none⟩)] w fun e w' => e = .returned (.int .i64 xs.length) ∧ w = w' := by
  obtain ⟨va, vb, h, h', hap⟩ := h
  exact Len_any ga va xs w0 w h
theorem rSend2 (ga gb : Nat) (xs ys : List ByteArray) (x : ByteArray) (w0 w : World) (h : Two w0 w ga gb xs ys) (hB : Below w0.heap.size w0 w) :
    Calls Try.prog 12 #[.pointer (some ⟨gb, 0, none⟩), .string x] w fun e w' => e = .returned (.bool (decide (ys.length < 64))) ∧ Two w0 w' ga gb xs (sent ys x) ∧ Below w0.heap.size w0 w' ∧ KeepT w w' := by
  obtain ⟨va, vb, h, h', hap⟩ := h
  refine (rSend_any gb vb ys x w0 w h' hB).mono ?_
  rintro e w' ⟨rfl, hd⟩
  exact ⟨rfl, Two.stepB h h' hap hd⟩
theorem rTake2 (ga gb : Nat) (xs ys : List ByteArray) (i : Int) (w0 w : World) (h : Two w0 w ga gb xs ys) (hB : Below w0.heap.size w0 w) (hl : ys.length ≤ 64) :
    Calls Try.prog 14 #[.pointer (some ⟨gb, 0, none⟩), .int .i64 i] w fun e w' => e = .returned (.tuple #[.string (lookS ys i), .bool (lookB ys i)]) ∧ Two w0 w' ga gb xs (rmL ys i) ∧ Below w0.heap.size w0 w' ∧ KeepT w w' := by
  obtain ⟨va, vb, h, h', hap⟩ := h
  refine (rTake_any gb vb ys i w0 w h' hB hl).mono ?_
  rintro e w' ⟨rfl, hd⟩
  exact ⟨rfl, Two.stepB h h' hap hd⟩
theorem rDrop2 (ga gb : Nat) (xs ys : List ByteArray) (i : Int) (w0 w : World) (h : Two w0 w ga gb xs ys) (hB : Below w0.heap.size w0 w) (hl : ys.length ≤ 64) :
    Calls Try.prog 18 #[.pointer (some ⟨gb, 0, none⟩), .int .i64 i] w fun e w' => e = .returned (.bool (lookB ys i)) ∧ Two w0 w' ga gb xs (rmL ys i) ∧ Below w0.heap.size w0 w' ∧ KeepT w w' := by
  obtain ⟨va, vb, h, h', hap⟩ := h
  refine (rDrop_any gb vb ys i w0 w h' hB hl).mono ?_
  rintro e w' ⟨rfl, hd⟩
  exact ⟨rfl, Two.stepB h h' hap hd⟩
theorem rCopy2 (ga gb : Nat) (xs ys : List ByteArray) (i : Int) (w0 w : World) (h : Two w0 w ga gb xs ys) (hB : Below w0.heap.size w0 w) :
    Calls Try.prog 16 #[.pointer (some ⟨gb, 0, none⟩), .int .i64 i] w fun e w' => e = .returned (.bool (cpB ys i)) ∧ Two w0 w' ga gb xs (cpL ys i) ∧ Below w0.heap.size w0 w' ∧ KeepT w w' := by
  obtain ⟨va, vb, h, h', hap⟩ := h
  refine (rCopy_any gb vb ys i w0 w h' hB).mono ?_
  rintro e w' ⟨rfl, hd⟩
  exact ⟨rfl, Two.stepB h h' hap hd⟩
theorem rLook2 (ga gb : Nat) (xs ys : List ByteArray) (i : Int) (w0 w : World) (h : Two w0 w ga gb xs ys) (hB : Below w0.heap.size w0 w) :
    Calls Try.prog 20 #[.pointer (some ⟨gb, 0, none⟩), .int .i64 i] w fun e w' => e = .returned (.tuple #[.string (lookS ys i), .bool (lookB ys i)]) ∧ Two w0 w' ga gb xs (ys) ∧ Below w0.heap.size w0 w' ∧ KeepT w w' := by
  have hh := h
  obtain ⟨va, vb, h, h', hap⟩ := h
  refine (rLook_any gb vb ys i w0 w h' hB).mono ?_
  rintro e w' ⟨rfl, hb⟩
  exact ⟨rfl, hh.below hb, hB.trans (hb.mono hB.size), KeepT.below hb⟩
theorem rLen2 (ga gb : Nat) (xs ys : List ByteArray) (w0 w : World) (h : Two w0 w ga gb xs ys) :
    Calls Try.prog 10 #[.pointer (some ⟨gb, 0, none⟩)] w fun e w' => e = .returned (.int .i64 ys.length) ∧ w = w' := by
  obtain ⟨va, vb, h, h', hap⟩ := h
  exact rLen_any gb vb ys w0 w h'
theorem New1 (w0 w : World) (hB : Below w0.heap.size w0 w) :
    Calls Try.prog 7 #[] w fun e w' => ∃ g : Nat, e = .returned (.pointer (some ⟨g, 0, none⟩)) ∧ One w0 w' g [] ∧ Below w0.heap.size w0 w' ∧ Below w.heap.size w w' := by
  go_enter Try.func7, Try.ntmps7
  go_wp2_with fail
  go_ret
  exact ⟨w.heap.size, rfl, ⟨.slice none 0 0, by simpa using heap_alloc_new w _, hB.size, Kd.R_nil _ _ _ _ _⟩, below_alloc hB _, below_alloc (Below.refl _ _) _⟩
theorem rNew2 (g : Nat) (xs : List ByteArray) (w0 w : World) (h : One w0 w g xs) (hB : Below w0.heap.size w0 w) :
    Calls Try.prog 8 #[] w fun e w' => ∃ gb : Nat, e = .returned (.pointer (some ⟨gb, 0, none⟩)) ∧ Two w0 w' g gb xs [] ∧ Below w0.heap.size w0 w' ∧ Below w.heap.size w w' := by
  obtain ⟨v, h⟩ := h
  go_enter Try.func8, Try.ntmps8
  go_wp2_with fail
  go_ret
  exact ⟨w.heap.size, rfl, ⟨v, .slice none 0 0, Bg.below h (below_alloc (Below.refl _ _) _), ⟨by simpa using heap_alloc_new w _, hB.size, Kd.R_nil _ _ _ _ _⟩, fun b _ e => by simp [Value.ownBlock] at e⟩, below_alloc hB _, below_alloc (Below.refl _ _) _⟩
end Go.Proofs.Ytoiilcljdepdaaa.Bg
