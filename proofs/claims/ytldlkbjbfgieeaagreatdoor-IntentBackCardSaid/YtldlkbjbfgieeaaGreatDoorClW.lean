/- slices.Clone, slices.Clip of works. -/
/- thin -/
import Derived.Test.YtldlkbjbfgieeaaGreatDoorInW
import Derived.Lib.SliceRun
namespace Go.Proofs.YtldlkbjbfgieeaaGreatDoor.ClW
set_option linter.unusedVariables false
set_option linter.unusedSimpArgs false
open Go.RowKit Go.Proofs.YtldlkbjbfgieeaaGreatDoorW.PrintWords Go.Proofs.YtldlkbjbfgieeaaGreatDoorW.PrintLast Mo Q Rw InW
theorem nil_of (l : List S32) (w : World) (hr : Kd.C k32 w none l.length l) : l = [] := by
 apply List.eq_nil_of_length_eq_zero
 rcases Nat.eq_zero_or_pos l.length with h | h
 ·exact h
 ·exfalso
  obtain ⟨ad, c, e, _⟩ := Kd.C_get hr z32 0 (by omega) (by omega)
  cases e
theorem clone (A : Option Addr) (c : Nat) (l : List S32) (w : World) (hr : Kd.C k32 w A l.length l) (hl : l.length ≤ 2000000) :
 Calls Tryz.prog 30 #[.slice A l.length c] w fun e w' => ∃ V, e = .returned V ∧ k32.R 32 w' w.heap.size (fun _ => True) V l ∧ Below w.heap.size w w' := by
 have q : ∀ (w : World) (a : Option Addr) (n c n' c' : Nat), (binOp .eql 24 (.slice a n c) (.slice none n' c')).run Tryz.prog w = .ok (.bool a.isNone) w := fun w a n c n' c' => Lib.run_eql_slice_nil w _ _ a n c n' c' Tryz.underlying24
 cases A with
 | none =>
  obtain rfl := nil_of l w hr
  go_enter Tryz.func30, Tryz.ntmps30
  go_wp2_with fail
  go_ret
  exact ⟨_, rfl, Kd.R_nil _ _ _ _ _, Below.refl _ _⟩
 | some ad =>
  have HB := below_alloc (Below.refl w.heap.size w) (.cells #[] 32)
  have HO : k32.R 32 (w.alloc (.cells #[] 32)) w.heap.size (fun _ => True) (.slice (some ⟨w.heap.size, 0, none⟩) 0 0) [] := R_iff.2 ⟨fun _ _ => trivial, World.ownsRow_made w #[] 0 (Nat.le_refl _) (Nat.zero_le _) rfl⟩
  have hr1 := Kd.C_below hr HB
  go_enter Tryz.func30, Tryz.ntmps30
  go_wp2_with (first | (at_builtin; refine Kd.R_append_rows k32 (Rr := k32.K (w.alloc (.cells #[] 32))) (w0 := w) w.heap.size rfl (.tmp 5) (.tmp 6) 24 32 (.agg #[.string ⟨#[]⟩, .int .i64 0, .int .i64 0, .int .i64 0, .int .i64 0, .string ⟨#[]⟩]) 64 rfl Tryz.underlying24 (by kernel_rfl) rfl (by decide) (by omega) (.slice (some ⟨w.heap.size, 0, none⟩) 0 0) [] l _ _ _ (fun _ => True) (fun _ => False) rfl rfl HO ?aR (fun y cs h => kM.2 (k32_open h)) (fun _ h => h.elim) (fun _ _ => trivial) HB ?aS ?aL ?_; (case aR => exact hr1); (case aS => exact HB.size); (case aL => simp; omega); intro v1 w1 ho1 hb1 hg1 hat1; rw [List.nil_append] at ho1))
  go_ret
  exact ⟨_, rfl, ho1, hb1⟩
theorem clip (A : Option Addr) (n c : Nat) (w : World) (hnc : n ≤ c) :
 Calls Tryz.prog 33 #[.slice A n c] w fun e w' => e = .returned (.slice A n n) ∧ w = w' := by
 have p1 : (0 : Int) ≤ (n : Int) := by omega
 have p2 : (n : Int) ≤ (c : Int) := by omega
 have e1 : (n : Int).toNat = n := Int.toNat_natCast n
 go_enter Tryz.func33, Tryz.ntmps33
 go_wp2_with fail
 go_ret
 exact ⟨rfl, rfl⟩
end Go.Proofs.YtldlkbjbfgieeaaGreatDoor.ClW
namespace Go.Proofs.YtldlkbjbfgieeaaGreatDoor.ClN
set_option linter.unusedVariables false
set_option linter.unusedSimpArgs false
open Go.RowKit Go.Proofs.YtldlkbjbfgieeaaGreatDoorW.PrintWords Go.Proofs.YtldlkbjbfgieeaaGreatDoorW.PrintLast Mo Q Rw InN
theorem nil_of (l : List S34) (w : World) (hr : Kd.C k34 w none l.length l) : l = [] := by
 apply List.eq_nil_of_length_eq_zero
 rcases Nat.eq_zero_or_pos l.length with h | h
 ·exact h
 ·exfalso
  obtain ⟨ad, c, e, _⟩ := Kd.C_get hr z34 0 (by omega) (by omega)
  cases e
theorem clone (A : Option Addr) (c : Nat) (l : List S34) (w : World) (hr : Kd.C k34 w A l.length l) (hl : l.length ≤ 2000000) :
 Calls Tryz.prog 31 #[.slice A l.length c] w fun e w' => ∃ V, e = .returned V ∧ k34.R 34 w' w.heap.size (fun _ => True) V l ∧ Below w.heap.size w w' := by
 have q : ∀ (w : World) (a : Option Addr) (n c n' c' : Nat), (binOp .eql 25 (.slice a n c) (.slice none n' c')).run Tryz.prog w = .ok (.bool a.isNone) w := fun w a n c n' c' => Lib.run_eql_slice_nil w _ _ a n c n' c' Tryz.underlying25
 cases A with
 | none =>
  obtain rfl := nil_of l w hr
  go_enter Tryz.func31, Tryz.ntmps31
  go_wp2_with fail
  go_ret
  exact ⟨_, rfl, Kd.R_nil _ _ _ _ _, Below.refl _ _⟩
 | some ad =>
  have HB := below_alloc (Below.refl w.heap.size w) (.cells #[] 34)
  have HO : k34.R 34 (w.alloc (.cells #[] 34)) w.heap.size (fun _ => True) (.slice (some ⟨w.heap.size, 0, none⟩) 0 0) [] := R_iff.2 ⟨fun _ _ => trivial, World.ownsRow_made w #[] 0 (Nat.le_refl _) (Nat.zero_le _) rfl⟩
  have hr1 := Kd.C_below hr HB
  go_enter Tryz.func31, Tryz.ntmps31
  go_wp2_with (first | (at_builtin; refine Kd.R_append_rows k34 (Rr := k34.K (w.alloc (.cells #[] 34))) (w0 := w) w.heap.size rfl (.tmp 5) (.tmp 6) 25 34 (.agg #[.string ⟨#[]⟩, .int .i64 0, .int .i64 0, .string ⟨#[]⟩, .bool false]) 56 rfl Tryz.underlying25 (by kernel_rfl) rfl (by decide) (by omega) (.slice (some ⟨w.heap.size, 0, none⟩) 0 0) [] l _ _ _ (fun _ => True) (fun _ => False) rfl rfl HO ?aR (fun y cs h => kM.2 (k34_open h)) (fun _ h => h.elim) (fun _ _ => trivial) HB ?aS ?aL ?_; (case aR => exact hr1); (case aS => exact HB.size); (case aL => simp; omega); intro v1 w1 ho1 hb1 hg1 hat1; rw [List.nil_append] at ho1))
  go_ret
  exact ⟨_, rfl, ho1, hb1⟩
theorem clip (A : Option Addr) (n c : Nat) (w : World) (hnc : n ≤ c) :
 Calls Tryz.prog 34 #[.slice A n c] w fun e w' => e = .returned (.slice A n n) ∧ w = w' := by
 have p1 : (0 : Int) ≤ (n : Int) := by omega
 have p2 : (n : Int) ≤ (c : Int) := by omega
 have e1 : (n : Int).toNat = n := Int.toNat_natCast n
 go_enter Tryz.func34, Tryz.ntmps34
 go_wp2_with fail
 go_ret
 exact ⟨rfl, rfl⟩
end Go.Proofs.YtldlkbjbfgieeaaGreatDoor.ClN
