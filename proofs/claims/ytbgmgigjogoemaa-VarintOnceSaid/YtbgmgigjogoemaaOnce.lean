/- Unlike numbers are laid unlike, and none's bytes begin another one's: for every two ints, without conditions. -/
import Derived.Test.YtbgmgigjogoemaaVaw
import Derived.Lib.Hide
import Derived.Deep.QuietTactic
import Derived.BigQuiet
namespace Go.Proofs.Ytbgmgigjogoemaa.Once
open Go.RowKit Go.Proofs.YtbgmgigjogoemaaW.PrintWords Go.Proofs.YtbgmgigjogoemaaW.PrintLast Go.Proofs.YtbgmgigjogoemaaW.PrintMore Go.Proofs.Ytbgmgigjogoemaa.Num Go.Proofs.Ytbgmgigjogoemaa.Vth Go.Proofs.Ytbgmgigjogoemaa.Giv Go.Proofs.Ytbgmgigjogoemaa.Q Go.Proofs.Ytbgmgigjogoemaa.Vrd Go.Proofs.Ytbgmgigjogoemaa.Vaw
attribute [local go_sem] max2_int min2_int max_two min_two max_three min_three max_four min_four
set_option linter.unusedVariables false
/-- a call that gives this value and leaves what was there -/
def Gives (f : FuncId) (args : Array Value) (v : Value) : Prop := ∀ w, Calls Try.prog f args w fun e w' => e = .returned v ∧ Below w.heap.size w w'
theorem same (n : Int) (w : World) (a : ByteArray) (ha0 : 1 ≤ a.size) (ha1 : a.size ≤ 10)
    (g0 : Gives 13 #[] (.bool true)) (g1 : Gives 14 #[.int .i64 n] (.string a)) :
    Calls Try.prog 4 #[.int .i64 n, .int .i64 n] w fun e w' => e = .returned (.bool true) ∧ Below w.heap.size w w' := by
  have H := Below.refl w.heap.size w
  have t1 : decide ((a.size : Int) < 1) = false := decide_eq_false (by omega)
  have t2 : decide ((10 : Int) < a.size) = false := decide_eq_false (by omega)
  have t3 : decide (a.size < 1) = false := decide_eq_false (by omega)
  have t4 : decide (10 < a.size) = false := decide_eq_false (by omega)
  go_enter Try.func4, Try.ntmps4
  go_wp2_with fail
  refine (g0 _).mono ?_; rintro e w30 ⟨rfl, hb⟩; replace H := H.trans (hb.mono H.size); clear hb
  go_wp2_with fail
  refine (g1 _).mono ?_; rintro e w30 ⟨rfl, hb⟩; replace H := H.trans (hb.mono H.size); clear hb
  go_wp2_with fail
  refine (g1 _).mono ?_; rintro e w30 ⟨rfl, hb⟩; replace H := H.trans (hb.mono H.size); clear hb
  go_wp2_with fail
  go_ret
  exact ⟨rfl, H⟩
theorem unlike1 (n m : Int) (w : World) (a b : ByteArray) (ha0 : 1 ≤ a.size) (ha1 : a.size ≤ 10) (hb0 : 1 ≤ b.size) (hb1 : b.size ≤ 10) (hnm : n ≠ m) (hlt : b.size < a.size)
    (hne : (a.extract 0 b.size).toList ≠ (b.extract 0 b.size).toList)
    (g0 : Gives 13 #[] (.bool true)) (g1 : Gives 14 #[.int .i64 n] (.string a)) (g2 : Gives 14 #[.int .i64 m] (.string b)) :
    Calls Try.prog 4 #[.int .i64 n, .int .i64 m] w fun e w' => e = .returned (.bool true) ∧ Below w.heap.size w w' := by
  have H := Below.refl w.heap.size w
  have t1 : decide ((a.size : Int) < 1) = false := decide_eq_false (by omega)
  have t2 : decide ((10 : Int) < a.size) = false := decide_eq_false (by omega)
  have t3 : decide (a.size < 1) = false := decide_eq_false (by omega)
  have t4 : decide (10 < a.size) = false := decide_eq_false (by omega)
  have t5 : decide ((b.size : Int) < 1) = false := decide_eq_false (by omega)
  have t6 : decide ((10 : Int) < b.size) = false := decide_eq_false (by omega)
  have t7 : decide (b.size < 1) = false := decide_eq_false (by omega)
  have t8 : decide (10 < b.size) = false := decide_eq_false (by omega)
  have n1 : (n == m) = false := beq_eq_false_iff_ne.2 hnm
  have n2 : (n != m) = true := bne_iff_ne.2 hnm
  have x1 : ((a.extract 0 b.size).toList == (b.extract 0 b.size).toList) = false := beq_eq_false_iff_ne.2 hne
  have x2 : ((a.extract 0 b.size).toList != (b.extract 0 b.size).toList) = true := bne_iff_ne.2 hne
  have f1 : decide (b.size < a.size) = true := decide_eq_true hlt
  have f2 : (b.size : Int) < (a.size : Int) := by omega
  have f3 : (b.size : Int) ≤ (a.size : Int) := by omega
  have x3 : Hid (((a.extract 0 b.size).toList == b.toList) = false) := Lib.hid (by rw [show b.extract 0 b.size = b from ByteArray.extract_zero_size] at x1; exact x1)
  clear hnm hne
  go_enter Try.func4, Try.ntmps4
  go_wp2_with fail
  refine (g0 _).mono ?_; rintro e w30 ⟨rfl, hb⟩; replace H := H.trans (hb.mono H.size); clear hb
  go_wp2_with fail
  refine (g1 _).mono ?_; rintro e w30 ⟨rfl, hb⟩; replace H := H.trans (hb.mono H.size); clear hb
  go_wp2_with fail
  refine (g2 _).mono ?_; rintro e w30 ⟨rfl, hb⟩; replace H := H.trans (hb.mono H.size); clear hb
  go_wp2_with fail
  go_quiet (fail)
  go_wp2_with fail
  go_ret
  exact ⟨by rw [x3.out]; rfl, by repeat (first | exact H | apply pw_below_drewN)⟩
theorem unlike2 (n m : Int) (w : World) (a b : ByteArray) (ha0 : 1 ≤ a.size) (ha1 : a.size ≤ 10) (hb0 : 1 ≤ b.size) (hb1 : b.size ≤ 10) (hnm : n ≠ m) (hlt : ¬ b.size < a.size)
    (hne : (a.extract 0 a.size).toList ≠ (b.extract 0 a.size).toList)
    (g0 : Gives 13 #[] (.bool true)) (g1 : Gives 14 #[.int .i64 n] (.string a)) (g2 : Gives 14 #[.int .i64 m] (.string b)) :
    Calls Try.prog 4 #[.int .i64 n, .int .i64 m] w fun e w' => e = .returned (.bool true) ∧ Below w.heap.size w w' := by
  have H := Below.refl w.heap.size w
  have t1 : decide ((a.size : Int) < 1) = false := decide_eq_false (by omega)
  have t2 : decide ((10 : Int) < a.size) = false := decide_eq_false (by omega)
  have t3 : decide (a.size < 1) = false := decide_eq_false (by omega)
  have t4 : decide (10 < a.size) = false := decide_eq_false (by omega)
  have t5 : decide ((b.size : Int) < 1) = false := decide_eq_false (by omega)
  have t6 : decide ((10 : Int) < b.size) = false := decide_eq_false (by omega)
  have t7 : decide (b.size < 1) = false := decide_eq_false (by omega)
  have t8 : decide (10 < b.size) = false := decide_eq_false (by omega)
  have n1 : (n == m) = false := beq_eq_false_iff_ne.2 hnm
  have n2 : (n != m) = true := bne_iff_ne.2 hnm
  have x1 : ((a.extract 0 a.size).toList == (b.extract 0 a.size).toList) = false := beq_eq_false_iff_ne.2 hne
  have x2 : ((a.extract 0 a.size).toList != (b.extract 0 a.size).toList) = true := bne_iff_ne.2 hne
  have f1 : decide (b.size < a.size) = false := decide_eq_false hlt
  have f2 : ¬ (b.size : Int) < (a.size : Int) := by omega
  have f3 : (a.size : Int) ≤ (b.size : Int) := by omega
  have x3 : Hid ((a.toList == (b.extract 0 a.size).toList) = false) := Lib.hid (by rw [show a.extract 0 a.size = a from ByteArray.extract_zero_size] at x1; exact x1)
  clear hnm hne
  go_enter Try.func4, Try.ntmps4
  go_wp2_with fail
  refine (g0 _).mono ?_; rintro e w30 ⟨rfl, hb⟩; replace H := H.trans (hb.mono H.size); clear hb
  go_wp2_with fail
  refine (g1 _).mono ?_; rintro e w30 ⟨rfl, hb⟩; replace H := H.trans (hb.mono H.size); clear hb
  go_wp2_with fail
  refine (g2 _).mono ?_; rintro e w30 ⟨rfl, hb⟩; replace H := H.trans (hb.mono H.size); clear hb
  go_wp2_with fail
  go_quiet (fail)
  go_wp2_with fail
  go_ret
  exact ⟨by rw [x3.out]; rfl, by repeat (first | exact H | apply pw_below_drewN)⟩
theorem prefix_ne (n m : Int) (n0 : -9223372036854775808 ≤ n) (n1 : n ≤ 9223372036854775807) (m0 : -9223372036854775808 ≤ m) (m1 : m ≤ 9223372036854775807) (h : n ≠ m) (k : Nat)
    (hk : k = (num n).size ∨ k = (num m).size) (hka : k ≤ (num n).size) (hkb : k ≤ (num m).size) : ((num n).extract 0 k).toList ≠ ((num m).extract 0 k).toList := by
  intro e
  have e' : (bytesOf (num n)).take k = (bytesOf (num m)).take k := by
    rw [toList_eq, toList_eq, ByteArray.data_extract, ByteArray.data_extract, Array.toList_extract, Array.toList_extract, List.extract_eq_take_drop, List.extract_eq_take_drop] at e
    simp only [Nat.sub_zero, List.drop_zero] at e
    unfold bytesOf
    rw [← List.map_take, ← List.map_take, e]
  apply h
  rcases hk with rfl | rfl
  · have e2 : bytesOf (num n) = (bytesOf (num m)).take (num n).size := by rw [← e', ← bytesOf_length, List.take_length]
    refine num_told (r := (bytesOf (num m)).drop (num n).size) (t := []) ?_ n0 n1 m0 m1
    rw [e2]; simp
  · have e2 : bytesOf (num m) = (bytesOf (num n)).take (num m).size := by rw [e', ← bytesOf_length, List.take_length]
    refine num_told (r := []) (t := (bytesOf (num n)).drop (num m).size) ?_ n0 n1 m0 m1
    rw [e2]; simp
theorem walk (n m : Int) (w : World) (w0 : (Lit.int .i64 n).wf = true) (w1 : (Lit.int .i64 m).wf = true) :
    Calls Try.prog 4 #[.int .i64 n, .int .i64 m] w fun e w' => e = .returned (.bool true) ∧ Below w.heap.size w w' := by
  have b0 := int64_bd w0
  have b1 := int64_bd w1
  have s0 := num_size_bd n
  have s1 := num_size_bd m
  have g0 : Gives 13 #[] (.bool true) := fun w => billetlaw01_awake.calls 40 true w (awake_yes 40 (by omega))
  by_cases h : n = m
  · subst h
    exact same n w (num n) s0.1 s0.2 g0 (fun w => num_calls n w b0.1 b0.2)
  · by_cases hlt : (num m).size < (num n).size
    · exact unlike1 n m w (num n) (num m) s0.1 s0.2 s1.1 s1.2 h hlt (prefix_ne n m b0.1 b0.2 b1.1 b1.2 h _ (by omega) (by omega) (by omega)) g0 (fun w => num_calls n w b0.1 b0.2) (fun w => num_calls m w b1.1 b1.2)
    · exact unlike2 n m w (num n) (num m) s0.1 s0.2 s1.1 s1.2 h hlt (prefix_ne n m b0.1 b0.2 b1.1 b1.2 h _ (by omega) (by omega) (by omega)) g0 (fun w => num_calls n w b0.1 b0.2) (fun w => num_calls m w b1.1 b1.2)
end Go.Proofs.Ytbgmgigjogoemaa.Once
