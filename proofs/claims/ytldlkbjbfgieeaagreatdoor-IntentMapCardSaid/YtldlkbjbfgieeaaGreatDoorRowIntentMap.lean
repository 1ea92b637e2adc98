import Derived.Test.YtldlkbjbfgieeaaGreatDoorRows
import Derived.Test.YtldlkbjbfgieeaaGreatDoorMr
import Derived.Test.YtldlkbjbfgieeaaGreatDoorOpen
import Derived.WalkKit
import Derived.ProofKit
import Derived.OpenShut
import Derived.ShutString
import Derived.ChangeOld
import Derived.Below
import Derived.SizedLaws
import Derived.Test.YtldlkbjbfgieeaaGreatDoorTie
import Derived.Test.YtldlkbjbfgieeaaGreatDoorCards
import Derived.SevenTiedAt
import Derived.Lay
import Derived.LaidMore
import Derived.Stop.Joined
namespace Go.Proofs.YtldlkbjbfgieeaaGreatDoor.intentMap
open Go.ChangeShapes Go.WideShapes Go.ChangeAt Go.RowKit
open Go.ChangeMaps (open_string shut_string)
open Go.Proofs.YtldlkbjbfgieeaaGreatDoorW.PrintWords
set_option linter.unusedVariables false
set_option linter.unusedSimpArgs false
theorem own : ownKnob Tryz.prog.godebug = none := by kernel_rfl
theorem laidOut : laidOutB Tryz.prog = true := by kernel_rfl
set_option maxRecDepth 100000 in
theorem lifted (os : Os) (started : os.Started) (H : Type) (enc : TypeId × Value → H) :
    ReturnsInHanded {} Tryz.checked os 6 .any (fun w args => (Rows.intentMapSpec.pre enc Tryz.prog Tryz.f6 Rows.intentMapRow.domain false w args ∧ laidMetH Tryz.prog Rows.intentMapRow.laid w) ∧ sizedMet enc Tryz.prog Tryz.f6 (OpenSpec.ofChange Rows.intentMapSpec) false w args) (Rows.intentMapSpec.post enc Tryz.prog Tryz.f6 false true false false) := by
  refine returnsInHanded_of_change_and (C := Tryz.checked) (X := fun w _ => laidMetH Tryz.prog Rows.intentMapRow.laid w) (fun _ _ _ hh h => h.of_heap hh) own started (by kernel_rfl) Tryz.func6
    (ChangeSpec.witness_shaped (enc := enc) (C := Tryz.checked) (os := os) (X := fun w _ => laidMetH Tryz.prog Rows.intentMapRow.laid w) false (World.laidAll Tryz.prog os Rows.intentMapRow.laid) #[.slice none 0 0] 8 (World.laidAll_os _ _ _)
      (World.shaped_of_ZipB (by kernel_rfl) (by kernel_rfl)) (by kernel_rfl) (by kernel_rfl) (by kernel_rfl)
      (by rw [MakeChecks.laidMetH_plain _ _ _ (by kernel_rfl)]; exact laidMet_laidAll _ (by kernel_rfl) (by kernel_rfl))) ?_
  intro W base args ds gs before hval0 hW hcnd hsz0 hL _
  have hsz : (DataW.weightsEach Tryz.prog (Tryz.f6.params.toList ++ Rows.intentMapSpec.plain.varTypes Tryz.prog) (ds ++ gs)).all (· ≤ reachBytes) = true := hsz0
  have hval : ∀ (j : Nat) t v, Tryz.f6.params[j]? = some t → args[j]? = some v → Value.okWide Tryz.prog W .any base t v := hval0
  have hW' := hW
  obtain ⟨p, q, hA0, hV, rfl, hfz, hnd⟩ := hW
  have hA : DataW.TrodAll enc Tryz.prog W 0 (fun _ => true) true Tryz.f6.params.toList args.toList ds p := hA0
  rw [Tryz.params6] at hA hval hsz
  obtain ⟨v0, vs0, d0, ds0, p0, q0, hargs, rfl, rfl, h0, r0⟩ := trodAll_cons hA
  obtain ⟨rfl, rfl, rfl⟩ := trodAll_nil r0
  obtain rfl : args = #[v0] := by cases args; simp_all
  obtain ⟨rfl, rfl⟩ := trodVars_none hV
  obtain ⟨a0, len0, cap0, rfl⟩ := okWide_slice Tryz.underlying22 (hval 0 22 v0 rfl rfl)
  have k0 := h0
  have lt0 : ∀ x ∈ p0, x.block < W.heap.size := by obtain ⟨m, hm⟩ := k0; exact DataW.trod_lt m _ _ _ hm
  obtain ⟨l0, ⟨A0, c0, hcs0, hc0, hr0⟩, hV0⟩ := Open.opened (Open.opens_slice Tryz.underlying22 (Open.opens_iso (fun x : Q.S40 => (x.f0, x.f1, x.f2, x.f3)) (fun a => ⟨⟨a.1, a.2.1, a.2.2.1, a.2.2.2⟩, rfl⟩) (Open.opens_struct Tryz.underlying40 (by kernel_rfl) (Open.opensF_cons rfl (by kernel_rfl) (Open.opens_int Tryz.underlying3) (Open.opensF_cons rfl (by kernel_rfl) (Open.opens_int Tryz.underlying3) (Open.opensF_cons rfl (by kernel_rfl) (Open.opens_int Tryz.underlying3) (Open.opensF_one rfl (by kernel_rfl) (Open.opens_slice Tryz.underlying38 (Open.opens_int Tryz.underlying3) (by kernel_rfl) rfl))))))) (by kernel_rfl) rfl) hsz (j := 0) (t := 22) rfl rfl k0
  obtain ⟨rfl, rfl, rfl⟩ : a0 = A0 ∧ len0 = l0.length ∧ cap0 = c0 := by simpa [Value.cells] using hcs0
  refine (Mr.map_row a0 cap0 l0 W hr0 hc0 hV0).mono fun e W' ⟨he, bel⟩ => ?_
  subst he
  exact ⟨_, rfl, _, _, _, [], _, [], hW', trodAll_mk1 (shut_bool Tryz.underlying4 _), (trodAll_cons_mk (Below.trod laidOut (by kernel_rfl) (of_decide_eq_true (by kernel_rfl)) k0 bel lt0) trodAll_mk0), rfl, bel.frame _, fun h => by cases h⟩
theorem over : Rows.intentMapRow.holds Tryz.pinned (OpenSpec.ofChange Rows.intentMapSpec) :=
  OpenClaim.holds_of_wide 6 Tryz.f6 rfl rfl rfl rfl rfl rfl rfl ⟨rfl, rfl, rfl, rfl, rfl⟩ rfl rfl rfl rfl rfl (by kernel_rfl) Tryz.func6 (by kernel_rfl)
    (of_decide_eq_true (by kernel_rfl)) (by unfold Func.isWrapper; first | (rw [if_pos (by decide +kernel)]; kernel_rfl) | (rw [if_neg (by decide +kernel)]; exact ⟨rfl, rfl⟩))
    (fun os started H enc _ => lifted os started H enc)
end Go.Proofs.YtldlkbjbfgieeaaGreatDoor.intentMap
namespace Go.Proofs.YtldlkbjbfgieeaaGreatDoor
open Go
/-- The tied card. -/
theorem intentMapCard_holds : Rows.IntentMapCardSaid :=
  Claim7.holds_tied_plain_at .later [] [.data, .pinned] true (true, "951782a1bf3ca3e6604be996b741ba8255983dd3c4aedb2bb9cb3ae5c8031ddd") false intentMap.over (fun _ h => by cases h) (by kernel_rfl) (fun _ h => by cases h) intentMap_row_tie rfl ⟨rfl, rfl⟩ (by kernel_rfl) rfl
    (fun f fn hf hfn => by
      obtain rfl : f = 6 := Option.some.inj ((show Tryz.prog.funcNamed Tryz.f6.name = some 6 by kernel_rfl).symm.trans hf) |>.symm
      obtain rfl : fn = Tryz.f6 := (Option.some.inj (Tryz.func6.symm.trans hfn)).symm
      exact ⟨by kernel_rfl, fun j t ht => by
        rw [Tryz.params6] at ht
        have hm : t ∈ [22] := by simpa using Array.mem_of_getElem? ht
        have hall : ([22].all fun u => !Tryz.prog.wantsStandIn u) = true := by kernel_rfl
        exact (show Tryz.prog.wantsStandIn t = false by simpa using List.all_eq_true.1 hall t hm)⟩)
    (by kernel_rfl)
#print axioms intentMapCard_holds
end Go.Proofs.YtldlkbjbfgieeaaGreatDoor
