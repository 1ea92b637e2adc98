import Derived.Test.YtldlkbjbfgieeaaGreatDoorRows
import Derived.Test.YtldlkbjbfgieeaaGreatDoorUr
import Derived.Test.YtldlkbjbfgieeaaGreatDoorOpen
import Derived.WalkKit
import Derived.ProofKit
import Derived.OpenShut
import Derived.ShutString
import Derived.ChangeOld
import Derived.Below
import Derived.SizedLaws
import Derived.Test.YtldlkbjbfgieeaaGreatDoorTie
import Derived.Test.YtldlkbjbfgieeaaGreatDoorCards
import Derived.SevenTiedAt
import Derived.Lay
import Derived.LaidMore
import Derived.Stop.Joined
namespace Go.Proofs.YtldlkbjbfgieeaaGreatDoor.intentUndoes
open Go.ChangeShapes Go.WideShapes Go.ChangeAt Go.RowKit
open Go.ChangeMaps (open_string shut_string)
open Go.Proofs.YtldlkbjbfgieeaaGreatDoorW.PrintWords
set_option linter.unusedVariables false
set_option linter.unusedSimpArgs false
theorem own : ownKnob Tryz.prog.godebug = none := by kernel_rfl
theorem laidOut : laidOutB Tryz.prog = true := by kernel_rfl
set_option maxRecDepth 100000 in
theorem lifted (os : Os) (started : os.Started) (H : Type) (enc : TypeId × Value → H) :
    ReturnsInHanded {} Tryz.checked os 4 .any (fun w args => (Rows.intentUndoesSpec.pre enc Tryz.prog Tryz.f4 Rows.intentUndoesRow.domain false w args ∧ laidMetH Tryz.prog Rows.intentUndoesRow.laid w) ∧ sizedMet enc Tryz.prog Tryz.f4 (OpenSpec.ofChange Rows.intentUndoesSpec) false w args) (Rows.intentUndoesSpec.post enc Tryz.prog Tryz.f4 false true false false) := by
  refine returnsInHanded_of_change_and (C := Tryz.checked) (X := fun w _ => laidMetH Tryz.prog Rows.intentUndoesRow.laid w) (fun _ _ _ hh h => h.of_heap hh) own started (by kernel_rfl) Tryz.func4
    (ChangeSpec.witness_shaped (enc := enc) (C := Tryz.checked) (os := os) (X := fun w _ => laidMetH Tryz.prog Rows.intentUndoesRow.laid w) false (World.laidAll Tryz.prog os Rows.intentUndoesRow.laid) #[.slice none 0 0, .agg #[.int .i64 0, .int .i64 0, .int .i64 0, .slice none 0 0]] 8 (World.laidAll_os _ _ _)
      (World.shaped_of_ZipB (by kernel_rfl) (by kernel_rfl)) (by kernel_rfl) (by kernel_rfl) (by kernel_rfl)
      (by rw [MakeChecks.laidMetH_plain _ _ _ (by kernel_rfl)]; exact laidMet_laidAll _ (by kernel_rfl) (by kernel_rfl))) ?_
  intro W base args ds gs before hval0 hW hcnd hsz0 hL _
  have hsz : (DataW.weightsEach Tryz.prog (Tryz.f4.params.toList ++ Rows.intentUndoesSpec.plain.varTypes Tryz.prog) (ds ++ gs)).all (· ≤ reachBytes) = true := hsz0
  have hval : ∀ (j : Nat) t v, Tryz.f4.params[j]? = some t → args[j]? = some v → Value.okWide Tryz.prog W .any base t v := hval0
  have hW' := hW
  obtain ⟨p, q, hA0, hV, rfl, hfz, hnd⟩ := hW
  have hA : DataW.TrodAll enc Tryz.prog W 0 (fun _ => true) true Tryz.f4.params.toList args.toList ds p := hA0
  rw [Tryz.params4] at hA hval hsz
  obtain ⟨v0, vs0, d0, ds0, p0, q0, hargs, rfl, rfl, h0, r0⟩ := trodAll_cons hA
  obtain ⟨v1, vs1, d1, ds1, p1, q1, rfl, rfl, rfl, h1, r1⟩ := trodAll_cons r0
  obtain ⟨rfl, rfl, rfl⟩ := trodAll_nil r1
  obtain rfl : args = #[v0, v1] := by cases args; simp_all
  obtain ⟨rfl, rfl⟩ := trodVars_none hV
  obtain ⟨a0, len0, cap0, rfl⟩ := okWide_slice Tryz.underlying22 (hval 0 22 v0 rfl rfl)
  have k0 := h0
  have lt0 : ∀ x ∈ p0, x.block < W.heap.size := by obtain ⟨m, hm⟩ := k0; exact DataW.trod_lt m _ _ _ hm
  obtain ⟨l0, ⟨A0, c0, hcs0, hc0, hr0⟩, hV0⟩ := Open.opened (Open.opens_slice Tryz.underlying22 (Open.opens_iso (fun x : Go.Proofs.YtldlkbjbfgieeaaGreatDoor.Q.S40 => (x.f0, x.f1, x.f2, x.f3)) (fun a => ⟨⟨a.1, a.2.1, a.2.2.1, a.2.2.2⟩, rfl⟩) (Open.opens_struct Tryz.underlying40 (by kernel_rfl) (Open.opensF_cons rfl (by kernel_rfl) (Open.opens_int Tryz.underlying3) (Open.opensF_cons rfl (by kernel_rfl) (Open.opens_int Tryz.underlying3) (Open.opensF_cons rfl (by kernel_rfl) (Open.opens_int Tryz.underlying3) (Open.opensF_one rfl (by kernel_rfl) (Open.opens_slice Tryz.underlying38 (Open.opens_int Tryz.underlying3) (by kernel_rfl) rfl))))))) (by kernel_rfl) rfl) hsz (j := 0) (t := 22) rfl rfl k0
  obtain ⟨rfl, rfl, rfl⟩ : a0 = A0 ∧ len0 = l0.length ∧ cap0 = c0 := by simpa [Value.cells] using hcs0
  obtain ⟨cs1, rfl, _⟩ := okWide_struct Tryz.underlying40 (hval 1 40 v1 rfl rfl)
  have k1 := h1
  have lt1 : ∀ x ∈ p1, x.block < W.heap.size := by obtain ⟨m, hm⟩ := k1; exact DataW.trod_lt m _ _ _ hm
  obtain ⟨x1, hK1, hV1⟩ := Open.opened (Open.opens_iso (fun x : Go.Proofs.YtldlkbjbfgieeaaGreatDoor.Q.S40 => (x.f0, x.f1, x.f2, x.f3)) (fun a => ⟨⟨a.1, a.2.1, a.2.2.1, a.2.2.2⟩, rfl⟩) (Open.opens_struct Tryz.underlying40 (by kernel_rfl) (Open.opensF_cons rfl (by kernel_rfl) (Open.opens_int Tryz.underlying3) (Open.opensF_cons rfl (by kernel_rfl) (Open.opens_int Tryz.underlying3) (Open.opensF_cons rfl (by kernel_rfl) (Open.opens_int Tryz.underlying3) (Open.opensF_one rfl (by kernel_rfl) (Open.opens_slice Tryz.underlying38 (Open.opens_int Tryz.underlying3) (by kernel_rfl) rfl))))))) hsz (j := 1) (t := 40) rfl rfl k1
  obtain ⟨A1, c1, hcs1, hc1, hr1⟩ := Go.Proofs.YtldlkbjbfgieeaaGreatDoor.Q.k40_open hK1
  obtain rfl : cs1 = #[.int .i64 x1.f0, .int .i64 x1.f1, .int .i64 x1.f2, .slice A1 x1.f3.length c1] := by apply Array.toList_inj.1; exact hcs1
  refine (Ur.undoes_row a0 cap0 l0 x1.f0 x1.f1 x1.f2 A1 c1 x1.f3 W hr0 hc0 hV0 hr1 hc1 hV1).mono fun e W' ⟨he, bel⟩ => ?_
  subst he
  exact ⟨_, rfl, _, _, _, [], _, [], hW', trodAll_mk1 (shut_bool Tryz.underlying4 _), (trodAll_cons_mk (Below.trod laidOut (by kernel_rfl) (of_decide_eq_true (by kernel_rfl)) k0 bel lt0) (trodAll_cons_mk (Below.trod laidOut (by kernel_rfl) (of_decide_eq_true (by kernel_rfl)) k1 bel lt1) trodAll_mk0)), rfl, bel.frame _, fun h => by cases h⟩
theorem over : Rows.intentUndoesRow.holds Tryz.pinned (OpenSpec.ofChange Rows.intentUndoesSpec) :=
  OpenClaim.holds_of_wide 4 Tryz.f4 rfl rfl rfl rfl rfl rfl rfl ⟨rfl, rfl, rfl, rfl, rfl⟩ rfl rfl rfl rfl rfl (by kernel_rfl) Tryz.func4 (by kernel_rfl)
    (of_decide_eq_true (by kernel_rfl)) (by unfold Func.isWrapper; first | (rw [if_pos (by decide +kernel)]; kernel_rfl) | (rw [if_neg (by decide +kernel)]; exact ⟨rfl, rfl⟩))
    (fun os started H enc _ => lifted os started H enc)
end Go.Proofs.YtldlkbjbfgieeaaGreatDoor.intentUndoes
namespace Go.Proofs.YtldlkbjbfgieeaaGreatDoor
open Go
/-- The tied card. -/
theorem intentUndoesCard_holds : Rows.IntentUndoesCardSaid :=
  Claim7.holds_tied_plain_at .later [] [.data, .pinned] true (true, "951782a1bf3ca3e6604be996b741ba8255983dd3c4aedb2bb9cb3ae5c8031ddd") false intentUndoes.over (fun _ h => by cases h) (by kernel_rfl) (fun _ h => by cases h) intentUndoes_row_tie rfl ⟨rfl, rfl⟩ (by kernel_rfl) rfl
    (fun f fn hf hfn => by
      obtain rfl : f = 4 := Option.some.inj ((show Tryz.prog.funcNamed Tryz.f4.name = some 4 by kernel_rfl).symm.trans hf) |>.symm
      obtain rfl : fn = Tryz.f4 := (Option.some.inj (Tryz.func4.symm.trans hfn)).symm
      exact ⟨by kernel_rfl, fun j t ht => by
        rw [Tryz.params4] at ht
        have hm : t ∈ [22, 40] := by simpa using Array.mem_of_getElem? ht
        have hall : ([22, 40].all fun u => !Tryz.prog.wantsStandIn u) = true := by kernel_rfl
        exact (show Tryz.prog.wantsStandIn t = false by simpa using List.all_eq_true.1 hall t hm)⟩)
    (by kernel_rfl)
#print axioms intentUndoesCard_holds
end Go.Proofs.YtldlkbjbfgieeaaGreatDoor
