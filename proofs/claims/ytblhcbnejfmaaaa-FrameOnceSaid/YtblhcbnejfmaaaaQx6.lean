-- Written by a program of this session (mp.py).
import Derived.Test.YtblhcbnejfmaaaaQx0
import Derived.Test.YtblhcbnejfmaaaaQx5
namespace Go.Proofs.Ytblhcbnejfmaaaa.Q
open Go.RowKit Go.Proofs.YtblhcbnejfmaaaaW.PrintWords Go.Proofs.YtblhcbnejfmaaaaW.PrintLast Go.Proofs.YtblhcbnejfmaaaaW.PrintMore
attribute [local go_sem] max2_int min2_int max_two min_two max_three min_three max_four min_four   -- for this text's walks alone
open Go.Proofs.Ytblhcbnejfmaaaa.Giv
set_option linter.unusedVariables false
set_option linter.unusedSimpArgs false

/-! ### adler_Sum: function 32 -/
def adler_Sum.f (k : Nat) (a0 : ByteArray) : Option (Int) := (adler_Add.f k 1 a0).bind fun t113 => (some t113)
theorem adler_Sum.mono : ∀ a0 k, LeO (adler_Sum.f k a0) (adler_Sum.f (k + 1) a0) := by
  intro a0 k
  unfold adler_Sum.f
  repeat' first
      | (with_reducible exact adler_Add.mono _ _ _)
      | (with_reducible exact LeO.refl _)
      | (with_reducible exact LeO.none _)
      | (with_reducible refine LeO.ite ?_ ?_)
      | (with_reducible refine LeO.bind ?_ (fun _ => ?_))
      | exact adler_Add.mono _ _ _
      | exact LeO.none _
      | refine LeO.ite ?_ ?_
      | refine LeO.bind ?_ (fun _ => ?_)
set_option maxHeartbeats 8000000 in
set_option maxRecDepth 100000 in
theorem adler_Sum.calls (k : Nat) (a0 : ByteArray) (r : Int) (w : World) (h : adler_Sum.f k a0 = some r) :
    Calls Try.prog 32 #[.string a0] w fun e w' => e = .returned (.int .u32 r) ∧ Below w.heap.size w w' := by
  have HB := Aside0.mk (Below.refl w.heap.size w)
  have H : ((adler_Add.f k 1 a0).bind fun t113 => (some t113)) = some r := h
  clear h
  replace H := Option.bind_eq_some_iff.mp H
  obtain ⟨t113, A20, H⟩ := H
  replace H : (some t113) = some r := H
  have A2 := Aside0.mk A20
  clear A20
  obtain rfl := Option.some.inj H
  go_enter Try.func32, Try.ntmps32
  go_wp2_with (first | ((with_reducible refine gate_callee (f := 38) rfl ?_); refine goesL_ (some 4) rfl rfl Try.func38 (by kernel_rfl) rfl #[.int .u32 1, .string a0] rfl (by (try simp only [List.map_toArray, List.map_cons, List.map_nil]); first | done | rfl | (simp only [List.length_drop, List.length_take]; rfl)) ?_; (with_reducible refine (adler_Add.calls k 1 a0 t113 _ A2.out).mono ?_); rintro e w3 ⟨rfl, hb⟩; refine ⟨_, rfl, ?_⟩; have n0_ := Aside0.mk (below_step (by repeat (first | (with_reducible first | exact HB.out | apply below_alloc | apply pw_below_drewN | apply below_drew1) | exact HB.out)) hb); clear HB; have HB := n0_; clear n0_; (try clear hb); (try clear hb2); (try clear hk); (try clear hi)))
  go_ret
  exact ⟨by first | rfl | (simp [errW_none, errW_some] <;> rfl) | (simp [*, errW_none, errW_some] <;> rfl), by repeat (first | (with_reducible first | exact HB.out | apply below_alloc | apply pw_below_drewN | apply below_drew1) | exact HB.out)⟩

end Go.Proofs.Ytblhcbnejfmaaaa.Q
