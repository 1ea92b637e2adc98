/- The kind of an Act; pick. -/
import Derived.Test.YtoiilcljdepdaaaAw
namespace Go.Proofs.Ytoiilcljdepdaaa.Bg
set_option linter.unusedVariables false
set_option linter.unusedSimpArgs false
open Go.RowKit Go.Proofs.YtoiilcljdepdaaaW.PrintWords Go.Proofs.YtoiilcljdepdaaaW.PrintLast Go.Proofs.YtoiilcljdepdaaaW.PrintMore Go.Proofs.Ytoiilcljdepdaaa.PBagPlays
attribute [local go_sem] max2_int min2_int max_two min_two max_three min_three max_four min_four
structure S29 where
  f0 : Int
  f1 : Int
  f2 : Bool
  f3 : ByteArray
def z29 : S29 := ⟨0, 0, false, ⟨#[]⟩⟩
def k29 : Kd S29 := Kd.iso (Kd.pair (Kd.int .i64) (Kd.pair (Kd.int .i64) (Kd.pair Kd.bool Kd.string))) (fun x : S29 => (x.f0, x.f1, x.f2, x.f3))
theorem k29_open {w : World} {x : S29} {cs : List Value} (h : k29.K w x cs) : cs = [.int .i64 x.f0, .int .i64 x.f1, .bool x.f2, .string x.f3] := by
  obtain ⟨_, _, rfl, rfl, ⟨_, _, rfl, rfl, ⟨_, _, rfl, rfl, rfl⟩⟩⟩ := h
  exact rfl
def rd29 (xs : List S29) (i : Nat) : S29 := xs.getD i z29
theorem at29 {w : World} {A : Option Addr} {n : Nat} {xs : List S29} (h : Kd.C k29 w A n xs) (i : Nat) (h1 : i < n) : ∃ ad : Addr, A = some ad ∧ w.cell? (ad.add (i * 4)) = some (.int .i64 (rd29 xs i).f0) ∧ w.cell? ⟨(ad.add (i * 4)).block, (ad.add (i * 4)).off + 1, none⟩ = some (.int .i64 (rd29 xs i).f1) ∧ w.cell? ⟨(ad.add (i * 4)).block, (ad.add (i * 4)).off + 2, none⟩ = some (.bool (rd29 xs i).f2) ∧ w.cell? ⟨(ad.add (i * 4)).block, (ad.add (i * 4)).off + 3, none⟩ = some (.string (rd29 xs i).f3) := by
  obtain ⟨ad, c, e, _, hK, hc0⟩ := Kd.C_get h z29 (i : Int) (by omega) (by omega)
  rw [Int.toNat_natCast] at hK hc0
  have hc : ∀ j u, c[j]? = some u → w.cell? (ad.add (i * 4 + j)) = some u := hc0
  obtain rfl := k29_open hK
  exact ⟨ad, e, hc 0 _ rfl, by rw [← add_field _ _ 1 (by omega)]; exact hc 1 _ rfl, by rw [← add_field _ _ 2 (by omega)]; exact hc 2 _ rfl, by rw [← add_field _ _ 3 (by omega)]; exact hc 3 _ rfl⟩
def pickR (a n : Int) : Int := if a < 0 then Int.tmod (wrap64 (-(wrap64 (a + 1)))) n else a % n
theorem pick_any (a n : Int) (w : World) (hn : n ≠ 0) : Calls Try.prog 9 #[.int .i64 a, .int .i64 n] w fun e w' => e = .returned (.int .i64 (pickR a n)) ∧ w = w' := by
  unfold pickR
  by_cases h : a < 0
  · have d1 : decide (a < 0) = true := by simp; omega
    rw [if_pos h]
    go_enter Try.func9, Try.ntmps9
    go_wp2_with fail
    go_ret
    exact ⟨rfl, rfl⟩
  · have d1 : decide (a < 0) = false := by simp; omega
    rw [if_neg h]
    go_enter Try.func9, Try.ntmps9
    go_wp2_with fail
    go_ret
    exact ⟨rfl, rfl⟩
end Go.Proofs.Ytoiilcljdepdaaa.Bg
