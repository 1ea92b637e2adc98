import Derived.Test.YtpgifeoigconbaaDoorRows
import Derived.Test.YtpgifeoigconbaaDoorLa
import Derived.Test.YtpgifeoigconbaaDoorOpen
import Derived.WalkKit
import Derived.ProofKit
import Derived.OpenShut
import Derived.ShutString
import Derived.ChangeOld
import Derived.Below
import Derived.SizedLaws
import Derived.Test.YtpgifeoigconbaaDoorTie
import Derived.Test.YtpgifeoigconbaaDoorCards
import Derived.SevenTiedAt
import Derived.Lay
import Derived.LaidMore
import Derived.Stop.Joined
namespace Go.Proofs.YtpgifeoigconbaaDoor.cellLast
open Go.ChangeShapes Go.WideShapes Go.ChangeAt Go.RowKit
open Go.ChangeMaps (open_string shut_string)
open Go.Proofs.YtpgifeoigconbaaDoorW.PrintWords
set_option linter.unusedVariables false
set_option linter.unusedSimpArgs false
theorem own : ownKnob Tryd.prog.godebug = none := by kernel_rfl
theorem laidOut : laidOutB Tryd.prog = true := by kernel_rfl
set_option maxRecDepth 100000 in
theorem lifted (os : Os) (started : os.Started) (H : Type) (enc : TypeId × Value → H) :
    ReturnsInHanded {} Tryd.checked os 5 .any (fun w args => (Rows.cellLastSpec.pre enc Tryd.prog Tryd.f5 Rows.cellLastRow.domain false w args ∧ laidMetH Tryd.prog Rows.cellLastRow.laid w) ∧ sizedMet enc Tryd.prog Tryd.f5 (OpenSpec.ofChange Rows.cellLastSpec) false w args) (Rows.cellLastSpec.post enc Tryd.prog Tryd.f5 false true false false) := by
  refine returnsInHanded_of_change_and (C := Tryd.checked) (X := fun w _ => laidMetH Tryd.prog Rows.cellLastRow.laid w) (fun _ _ _ hh h => h.of_heap hh) own started (by kernel_rfl) Tryd.func5
    (ChangeSpec.witness_shaped (enc := enc) (C := Tryd.checked) (os := os) (X := fun w _ => laidMetH Tryd.prog Rows.cellLastRow.laid w) false (World.laidAll Tryd.prog os Rows.cellLastRow.laid) #[.slice none 0 0, .slice none 0 0] 8 (World.laidAll_os _ _ _)
      (World.shaped_of_ZipB (by kernel_rfl) (by kernel_rfl)) (by kernel_rfl) (by kernel_rfl) (by kernel_rfl)
      (by rw [MakeChecks.laidMetH_plain _ _ _ (by kernel_rfl)]; exact laidMet_laidAll _ (by kernel_rfl) (by kernel_rfl))) ?_
  intro W base args ds gs before hval0 hW hcnd hsz0 hL _
  have hsz : (DataW.weightsEach Tryd.prog (Tryd.f5.params.toList ++ Rows.cellLastSpec.plain.varTypes Tryd.prog) (ds ++ gs)).all (· ≤ reachBytes) = true := hsz0
  have hval : ∀ (j : Nat) t v, Tryd.f5.params[j]? = some t → args[j]? = some v → Value.okWide Tryd.prog W .any base t v := hval0
  have hW' := hW
  obtain ⟨p, q, hA0, hV, rfl, hfz, hnd⟩ := hW
  have hA : DataW.TrodAll enc Tryd.prog W 0 (fun _ => true) true Tryd.f5.params.toList args.toList ds p := hA0
  rw [Tryd.params5] at hA hval hsz
  obtain ⟨v0, vs0, d0, ds0, p0, q0, hargs, rfl, rfl, h0, r0⟩ := trodAll_cons hA
  obtain ⟨v1, vs1, d1, ds1, p1, q1, rfl, rfl, rfl, h1, r1⟩ := trodAll_cons r0
  obtain ⟨rfl, rfl, rfl⟩ := trodAll_nil r1
  obtain rfl : args = #[v0, v1] := by cases args; simp_all
  obtain ⟨rfl, rfl⟩ := trodVars_none hV
  obtain ⟨a0, len0, cap0, rfl⟩ := okWide_slice Tryd.underlying23 (hval 0 23 v0 rfl rfl)
  have k0 := h0
  have lt0 : ∀ x ∈ p0, x.block < W.heap.size := by obtain ⟨m, hm⟩ := k0; exact DataW.trod_lt m _ _ _ hm
  obtain ⟨l0, ⟨A0, c0, hcs0, hc0, hr0⟩, hV0⟩ := Open.opened (Open.opens_slice Tryd.underlying23 (Open.opens_iso (fun x : Cl.S42 => (x.f0, x.f1, x.f2, x.f3, x.f4, x.f5, x.f6)) (fun a => ⟨⟨a.1, a.2.1, a.2.2.1, a.2.2.2.1, a.2.2.2.2.1, a.2.2.2.2.2.1, a.2.2.2.2.2.2⟩, rfl⟩) (Open.opens_struct Tryd.underlying42 (by kernel_rfl) (Open.opensF_cons rfl (by kernel_rfl) (Open.opens_int Tryd.underlying3) (Open.opensF_cons rfl (by kernel_rfl) (Open.opens_int Tryd.underlying3) (Open.opensF_cons rfl (by kernel_rfl) (Open.opens_int Tryd.underlying3) (Open.opensF_cons rfl (by kernel_rfl) (Open.opens_int Tryd.underlying3) (Open.opensF_cons rfl (by kernel_rfl) (Open.opens_int Tryd.underlying3) (Open.opensF_cons rfl (by kernel_rfl) (Open.opens_int Tryd.underlying3) (Open.opensF_one rfl (by kernel_rfl) (Open.opens_slice Tryd.underlying40 (Open.opens_int Tryd.underlying3) (by kernel_rfl) rfl)))))))))) (by kernel_rfl) rfl) hsz (j := 0) (t := 23) rfl rfl k0
  obtain ⟨rfl, rfl, rfl⟩ : a0 = A0 ∧ len0 = l0.length ∧ cap0 = c0 := by simpa [Value.cells] using hcs0
  obtain ⟨a1, len1, cap1, rfl⟩ := okWide_slice Tryd.underlying40 (hval 1 40 v1 rfl rfl)
  have k1 := h1
  have lt1 : ∀ x ∈ p1, x.block < W.heap.size := by obtain ⟨m, hm⟩ := k1; exact DataW.trod_lt m _ _ _ hm
  obtain ⟨l1, ⟨A1, c1, hcs1, hc1, hr1⟩, hV1⟩ := Open.opened (Open.opens_slice Tryd.underlying40 (Open.opens_int Tryd.underlying3) (by kernel_rfl) rfl) hsz (j := 1) (t := 40) rfl rfl k1
  obtain ⟨rfl, rfl, rfl⟩ : a1 = A1 ∧ len1 = l1.length ∧ cap1 = c1 := by simpa [Value.cells] using hcs1
  refine (Cl.last_row a0 cap0 l0 a1 cap1 l1 W hr0 hc0 hV0 hr1 hc1 hV1).mono fun e W' ⟨he, bel⟩ => ?_
  subst he
  exact ⟨_, rfl, _, _, _, [], _, [], hW', trodAll_mk1 (shut_bool Tryd.underlying4 _), (trodAll_cons_mk (Below.trod laidOut (by kernel_rfl) (of_decide_eq_true (by kernel_rfl)) k0 bel lt0) (trodAll_cons_mk (Below.trod laidOut (by kernel_rfl) (of_decide_eq_true (by kernel_rfl)) k1 bel lt1) trodAll_mk0)), rfl, bel.frame _, fun h => by cases h⟩
theorem over : Rows.cellLastRow.holds Tryd.pinned (OpenSpec.ofChange Rows.cellLastSpec) :=
  OpenClaim.holds_of_wide 5 Tryd.f5 rfl rfl rfl rfl rfl rfl rfl ⟨rfl, rfl, rfl, rfl, rfl⟩ rfl rfl rfl rfl rfl (by kernel_rfl) Tryd.func5 (by kernel_rfl)
    (of_decide_eq_true (by kernel_rfl)) (by unfold Func.isWrapper; first | (rw [if_pos (by decide +kernel)]; kernel_rfl) | (rw [if_neg (by decide +kernel)]; exact ⟨rfl, rfl⟩))
    (fun os started H enc _ => lifted os started H enc)
end Go.Proofs.YtpgifeoigconbaaDoor.cellLast
namespace Go.Proofs.YtpgifeoigconbaaDoor
open Go
/-- The tied card. -/
theorem cellLastCard_holds : Rows.CellLastCardSaid :=
  Claim7.holds_tied_plain_at .later [] [.data, .pinned] true (true, "0fd675e76e79e6f2d8f8432abb6cac55db8e06a51cd43435bade8c7b462a1a8a") false cellLast.over (fun _ h => by cases h) (by kernel_rfl) (fun _ h => by cases h) cellLast_row_tie rfl ⟨rfl, rfl⟩ (by kernel_rfl) rfl
    (fun f fn hf hfn => by
      obtain rfl : f = 5 := Option.some.inj ((show Tryd.prog.funcNamed Tryd.f5.name = some 5 by kernel_rfl).symm.trans hf) |>.symm
      obtain rfl : fn = Tryd.f5 := (Option.some.inj (Tryd.func5.symm.trans hfn)).symm
      exact ⟨by kernel_rfl, fun j t ht => by
        rw [Tryd.params5] at ht
        have hm : t ∈ [23, 40] := by simpa using Array.mem_of_getElem? ht
        have hall : ([23, 40].all fun u => !Tryd.prog.wantsStandIn u) = true := by kernel_rfl
        exact (show Tryd.prog.wantsStandIn t = false by simpa using List.all_eq_true.1 hall t hm)⟩)
    (by kernel_rfl)
#print axioms cellLastCard_holds
end Go.Proofs.YtpgifeoigconbaaDoor
