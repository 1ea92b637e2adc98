/- The document's cell: Running. -/
import Derived.Test.YtpgifeoigconbaaDoorRv
import Derived.Test.YtpgifeoigconbaaDoorQx49
namespace Go.Proofs.YtpgifeoigconbaaDoor.Cl
set_option linter.unusedVariables false
set_option linter.unusedSimpArgs false
open Go.RowKit Go.Proofs.YtpgifeoigconbaaDoorW.PrintWords Go.Proofs.YtpgifeoigconbaaDoorW.PrintLast Go.Proofs.YtpgifeoigconbaaDoor.Mo Go.Proofs.YtpgifeoigconbaaDoor.Q
variable {ok : Nat → Prop}
attribute [local go_sem] max2_int min2_int max_two min_two max_three min_three max_four min_four
theorem rholds_eq (a u : Int) : billetref14_Holds.f a u = some (holdsS a u) := rfl
theorem rrunning_any (g : Nat) (n b e v u now : Int) (V : Value) (bs : List S35) (w0 w : World) (h : Ce ok 53 w0 w g n b e v u V bs) (hl : bs.length ≤ 2000000000000) :
    Calls Tryd.prog 18 #[.pointer (some ⟨g, 0, none⟩), .int .i64 now] w fun ee w' => ∃ A c, ee = .returned (.slice A (runS now u bs).length c) ∧ (runS now u bs).length ≤ c ∧ Made w w' A (runS now u bs) ∧ Below w.heap.size w w' := by
  have hu := (blk_cell h.1 4).trans rfl
  cases hh : holdsS now u with
  | true =>
    have hr : runS now u bs = bs := by unfold runS; rw [hh]; rfl
    rw [hr]
    obtain ⟨A, c, rfl⟩ := Kd.R_slice h.2.2
    go_enter Tryd.func18, Tryd.ntmps18
    go_wp2_with fail
    refine (billetref14_Holds.calls now u true w (by rw [rholds_eq, hh])).mono ?_; rintro ee w1 ⟨rfl, hb⟩
    have h5 := (blk_cell ((hb.block g (blk_lt h.1)).trans h.1) 5).trans rfl
    have hC := (Kd.R_reads' (Kd.R_below h.2.2 hb)).2.2
    go_wp2_with (first | (at_builtin; refine Kd.R_append_rows k35 (w0 := w1) w1.heap.size rfl (.tmp 15) (.tmp 19) 29 35 (.agg #[.string ⟨#[]⟩, .string ⟨#[]⟩, .int .i64 0]) 40 rfl Tryd.underlying29 (by kernel_rfl) rfl (by decide) (by omega) (.slice none 0 0) [] bs _ _ _ (fun _ => True) (fun _ => False) rfl rfl (Kd.R_nil _ _ _ _ _) ?aR (fun _ _ h => h) (fun _ h => h.elim) (fun _ _ => trivial) (Below.refl _ _) (Nat.le_refl _) ?aL ?_; (case aR => exact hC); (case aL => simp; omega); intro v1 w2 ho1 hb1 hg1 hat1; rw [List.nil_append] at ho1; obtain ⟨A1, c1, rfl⟩ := Kd.R_slice ho1))
    go_ret
    exact ⟨A1, c1, rfl, (Kd.R_reads' ho1).2.1, ⟨c1, Kd.R_lower ho1 hb.size⟩, hb.trans (hb1.mono hb.size)⟩
  | false =>
    have hr : runS now u bs = [] := by unfold runS; rw [hh]; rfl
    rw [hr]
    go_enter Tryd.func18, Tryd.ntmps18
    go_wp2_with fail
    refine (billetref14_Holds.calls now u false w (by rw [rholds_eq, hh])).mono ?_; rintro ee w1 ⟨rfl, hb⟩
    go_wp2_with fail
    go_ret
    exact ⟨none, 0, rfl, Nat.le_refl _, ⟨0, Kd.R_nil _ _ _ _ _⟩, hb⟩
end Go.Proofs.YtpgifeoigconbaaDoor.Cl
