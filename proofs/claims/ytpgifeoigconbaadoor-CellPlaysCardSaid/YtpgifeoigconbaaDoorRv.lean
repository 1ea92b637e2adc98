/- A cell: what runs, what is taken. -/
import Derived.Test.YtpgifeoigconbaaDoorCl
import Derived.Test.YtpgifeoigconbaaDoorQx40
namespace Go.Proofs.YtpgifeoigconbaaDoor.Cl
set_option linter.unusedVariables false
set_option linter.unusedSimpArgs false
open Go.RowKit Go.Proofs.YtpgifeoigconbaaDoorW.PrintWords Go.Proofs.YtpgifeoigconbaaDoorW.PrintLast Go.Proofs.YtpgifeoigconbaaDoor.Mo Go.Proofs.YtpgifeoigconbaaDoor.Q
variable {ok : Nat → Prop}
attribute [local go_sem] max2_int min2_int max_two min_two max_three min_three max_four min_four
def holdsS (a u : Int) : Bool := decide (mn (mx a (-1099511627776)) 1099511627776 < mn (mx u (-1099511627776)) 1099511627776)
theorem holds_eq (a u : Int) : lease_Holds.f a u = some (holdsS a u) := rfl
/-- what runs -/
def runS (now u : Int) (bs : List S35) : List S35 := if holdsS now u then bs else []
theorem running_any (g : Nat) (n b e v u now : Int) (V : Value) (bs : List S35) (w0 w : World) (h : Ce ok 51 w0 w g n b e v u V bs) (hl : bs.length ≤ 2000000000000) :
    Calls Tryd.prog 17 #[.pointer (some ⟨g, 0, none⟩), .int .i64 now] w fun ee w' => ∃ A c, ee = .returned (.slice A (runS now u bs).length c) ∧ (runS now u bs).length ≤ c ∧ Made w w' A (runS now u bs) ∧ Below w.heap.size w w' := by
  have hu := (blk_cell h.1 4).trans rfl
  cases hh : holdsS now u with
  | true =>
    have hr : runS now u bs = bs := by unfold runS; rw [hh]; rfl
    rw [hr]
    go_enter Tryd.func17, Tryd.ntmps17
    go_wp2_with fail
    refine (lease_Holds.calls now u true w (by rw [holds_eq, hh])).mono ?_; rintro ee w1 ⟨rfl, hb⟩
    go_wp2_with fail
    refine (all_any g n b e v u V bs w0 w1 ⟨(hb.block g (blk_lt h.1)).trans h.1, h.2.1, Kd.R_below h.2.2 hb⟩ hl).mono ?_; rintro ee w2 ⟨A, rfl, hm, hb2⟩
    go_wp2_with fail
    go_ret
    obtain ⟨c1, hm1⟩ := hm
    exact ⟨A, bs.length, rfl, Nat.le_refl _, ⟨c1, Kd.R_lower hm1 hb.size⟩, hb.trans (hb2.mono hb.size)⟩
  | false =>
    have hr : runS now u bs = [] := by unfold runS; rw [hh]; rfl
    rw [hr]
    go_enter Tryd.func17, Tryd.ntmps17
    go_wp2_with fail
    refine (lease_Holds.calls now u false w (by rw [holds_eq, hh])).mono ?_; rintro ee w1 ⟨rfl, hb⟩
    go_wp2_with fail
    go_ret
    exact ⟨none, 0, rfl, Nat.le_refl _, ⟨0, Kd.R_nil _ _ _ _ _⟩, hb⟩
/-- whether one stands ahead of another one -/
def aheadS (a b c d : Int) : Bool := decide (a < c) || (decide (a = c) && decide (b < d))
theorem ahead_any (a b c d : Int) (w : World) : Calls Tryd.prog 22 #[.agg #[.int .i64 a, .int .i64 b], .agg #[.int .i64 c, .int .i64 d]] w fun ee w' => ee = .returned (.bool (aheadS a b c d)) ∧ Below w.heap.size w w' := by
  have HB := below_alloc (below_alloc (Below.refl w.heap.size w) (.cells #[.int .i64 a, .int .i64 b] 49)) (.cells #[.int .i64 c, .int .i64 d] 49)
  unfold aheadS
  cases h1 : decide (a < c) with
  | true =>
    go_enter Tryd.func22, Tryd.ntmps22
    go_wp2_with fail
    go_ret
    exact ⟨rfl, HB⟩
  | false =>
    have e0 : (a == c) = decide (a = c) := by rw [Bool.eq_iff_iff, beq_iff_eq, decide_eq_true_eq]
    cases h2 : decide (a = c) with
    | true =>
      rw [h2] at e0
      go_enter Tryd.func22, Tryd.ntmps22
      go_wp2_with fail
      go_ret
      exact ⟨rfl, HB⟩
    | false =>
      rw [h2] at e0
      go_enter Tryd.func22, Tryd.ntmps22
      go_wp2_with fail
      go_ret
      exact ⟨rfl, HB⟩
end Go.Proofs.YtpgifeoigconbaaDoor.Cl
