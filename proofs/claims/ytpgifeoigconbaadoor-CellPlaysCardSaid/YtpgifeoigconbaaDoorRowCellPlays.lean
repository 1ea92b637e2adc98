import Derived.Test.YtpgifeoigconbaaDoorRows
import Derived.Test.YtpgifeoigconbaaDoorCp
import Derived.Test.YtpgifeoigconbaaDoorOpen
import Derived.WalkKit
import Derived.ProofKit
import Derived.OpenShut
import Derived.ShutString
import Derived.ChangeOld
import Derived.Below
import Derived.SizedLaws
import Derived.Test.YtpgifeoigconbaaDoorTie
import Derived.Test.YtpgifeoigconbaaDoorCards
import Derived.SevenTiedAt
import Derived.Lay
import Derived.LaidMore
import Derived.Stop.Joined
namespace Go.Proofs.YtpgifeoigconbaaDoor.cellPlays
open Go.ChangeShapes Go.WideShapes Go.ChangeAt Go.RowKit
open Go.ChangeMaps (open_string shut_string)
open Go.Proofs.YtpgifeoigconbaaDoorW.PrintWords
set_option linter.unusedVariables false
set_option linter.unusedSimpArgs false
theorem own : ownKnob Tryd.prog.godebug = none := by kernel_rfl
theorem laidOut : laidOutB Tryd.prog = true := by kernel_rfl
set_option maxRecDepth 100000 in
theorem lifted (os : Os) (started : os.Started) (H : Type) (enc : TypeId × Value → H) :
    ReturnsInHanded {} Tryd.checked os 3 .any (fun w args => (Rows.cellPlaysSpec.pre enc Tryd.prog Tryd.f3 Rows.cellPlaysRow.domain false w args ∧ laidMetH Tryd.prog Rows.cellPlaysRow.laid w) ∧ sizedMet enc Tryd.prog Tryd.f3 (OpenSpec.ofChange Rows.cellPlaysSpec) false w args) (Rows.cellPlaysSpec.post enc Tryd.prog Tryd.f3 false true false false) := by
  refine returnsInHanded_of_change_and (C := Tryd.checked) (X := fun w _ => laidMetH Tryd.prog Rows.cellPlaysRow.laid w) (fun _ _ _ hh h => h.of_heap hh) own started (by kernel_rfl) Tryd.func3
    (ChangeSpec.witness_shaped (enc := enc) (C := Tryd.checked) (os := os) (X := fun w _ => laidMetH Tryd.prog Rows.cellPlaysRow.laid w) false (World.laidAll Tryd.prog os Rows.cellPlaysRow.laid) #[.int .i64 0, .int .i64 0, .slice none 0 0, .slice none 0 0, .int .i64 0] 8 (World.laidAll_os _ _ _)
      (World.shaped_of_ZipB (by kernel_rfl) (by kernel_rfl)) (by kernel_rfl) (by kernel_rfl) (by kernel_rfl)
      (by rw [MakeChecks.laidMetH_plain _ _ _ (by kernel_rfl)]; exact laidMet_laidAll _ (by kernel_rfl) (by kernel_rfl))) ?_
  intro W base args ds gs before hval0 hW hcnd hsz0 hL _
  have hsz : (DataW.weightsEach Tryd.prog (Tryd.f3.params.toList ++ Rows.cellPlaysSpec.plain.varTypes Tryd.prog) (ds ++ gs)).all (· ≤ reachBytes) = true := hsz0
  have hval : ∀ (j : Nat) t v, Tryd.f3.params[j]? = some t → args[j]? = some v → Value.okWide Tryd.prog W .any base t v := hval0
  have hW' := hW
  obtain ⟨p, q, hA0, hV, rfl, hfz, hnd⟩ := hW
  have hA : DataW.TrodAll enc Tryd.prog W 0 (fun _ => true) true Tryd.f3.params.toList args.toList ds p := hA0
  rw [Tryd.params3] at hA hval hsz
  obtain ⟨v0, vs0, d0, ds0, p0, q0, hargs, rfl, rfl, h0, r0⟩ := trodAll_cons hA
  obtain ⟨v1, vs1, d1, ds1, p1, q1, rfl, rfl, rfl, h1, r1⟩ := trodAll_cons r0
  obtain ⟨v2, vs2, d2, ds2, p2, q2, rfl, rfl, rfl, h2, r2⟩ := trodAll_cons r1
  obtain ⟨v3, vs3, d3, ds3, p3, q3, rfl, rfl, rfl, h3, r3⟩ := trodAll_cons r2
  obtain ⟨v4, vs4, d4, ds4, p4, q4, rfl, rfl, rfl, h4, r4⟩ := trodAll_cons r3
  obtain ⟨rfl, rfl, rfl⟩ := trodAll_nil r4
  obtain rfl : args = #[v0, v1, v2, v3, v4] := by cases args; simp_all
  obtain ⟨rfl, rfl⟩ := trodVars_none hV
  obtain ⟨a0, rfl, rfl, rfl, w0⟩ := open_int Tryd.underlying3 (hval 0 3 v0 rfl rfl) h0
  obtain ⟨a1, rfl, rfl, rfl, w1⟩ := open_int Tryd.underlying3 (hval 1 3 v1 rfl rfl) h1
  obtain ⟨a2, len2, cap2, rfl⟩ := okWide_slice Tryd.underlying22 (hval 2 22 v2 rfl rfl)
  have k2 := h2
  have lt2 : ∀ x ∈ p2, x.block < W.heap.size := by obtain ⟨m, hm⟩ := k2; exact DataW.trod_lt m _ _ _ hm
  obtain ⟨l2, ⟨A2, c2, hcs2, hc2, hr2⟩, hV2⟩ := Open.opened (Open.opens_slice Tryd.underlying22 (Open.opens_iso (fun x : Cl.S31 => (x.f0, x.f1, x.f2, x.f3, x.f4, x.f5, x.f6)) (fun a => ⟨⟨a.1, a.2.1, a.2.2.1, a.2.2.2.1, a.2.2.2.2.1, a.2.2.2.2.2.1, a.2.2.2.2.2.2⟩, rfl⟩) (Open.opens_struct Tryd.underlying31 (by kernel_rfl) (Open.opensF_cons rfl (by kernel_rfl) (Open.opens_int Tryd.underlying3) (Open.opensF_cons rfl (by kernel_rfl) (Open.opens_int Tryd.underlying3) (Open.opensF_cons rfl (by kernel_rfl) (Open.opens_int Tryd.underlying3) (Open.opensF_cons rfl (by kernel_rfl) (Open.opens_int Tryd.underlying3) (Open.opensF_cons rfl (by kernel_rfl) (Open.opens_int Tryd.underlying3) (Open.opensF_cons rfl (by kernel_rfl) (Open.opens_int Tryd.underlying3) (Open.opensF_one rfl (by kernel_rfl) (Open.opens_slice Tryd.underlying29 (Open.opens_iso (fun x : Q.S35 => (x.f0, x.f1, x.f2)) (fun a => ⟨⟨a.1, a.2.1, a.2.2⟩, rfl⟩) (Open.opens_struct Tryd.underlying35 (by kernel_rfl) (Open.opensF_cons rfl (by kernel_rfl) (Open.opens_string Tryd.underlying9) (Open.opensF_cons rfl (by kernel_rfl) (Open.opens_string Tryd.underlying9) (Open.opensF_one rfl (by kernel_rfl) (Open.opens_int Tryd.underlying3)))))) (by kernel_rfl) rfl)))))))))) (by kernel_rfl) rfl) hsz (j := 2) (t := 22) rfl rfl k2
  obtain ⟨rfl, rfl, rfl⟩ : a2 = A2 ∧ len2 = l2.length ∧ cap2 = c2 := by simpa [Value.cells] using hcs2
  obtain ⟨a3, len3, cap3, rfl⟩ := okWide_slice Tryd.underlying23 (hval 3 23 v3 rfl rfl)
  have k3 := h3
  have lt3 : ∀ x ∈ p3, x.block < W.heap.size := by obtain ⟨m, hm⟩ := k3; exact DataW.trod_lt m _ _ _ hm
  obtain ⟨l3, ⟨A3, c3, hcs3, hc3, hr3⟩, hV3⟩ := Open.opened (Open.opens_slice Tryd.underlying23 (Open.opens_iso (fun x : Cl.S42 => (x.f0, x.f1, x.f2, x.f3, x.f4, x.f5, x.f6)) (fun a => ⟨⟨a.1, a.2.1, a.2.2.1, a.2.2.2.1, a.2.2.2.2.1, a.2.2.2.2.2.1, a.2.2.2.2.2.2⟩, rfl⟩) (Open.opens_struct Tryd.underlying42 (by kernel_rfl) (Open.opensF_cons rfl (by kernel_rfl) (Open.opens_int Tryd.underlying3) (Open.opensF_cons rfl (by kernel_rfl) (Open.opens_int Tryd.underlying3) (Open.opensF_cons rfl (by kernel_rfl) (Open.opens_int Tryd.underlying3) (Open.opensF_cons rfl (by kernel_rfl) (Open.opens_int Tryd.underlying3) (Open.opensF_cons rfl (by kernel_rfl) (Open.opens_int Tryd.underlying3) (Open.opensF_cons rfl (by kernel_rfl) (Open.opens_int Tryd.underlying3) (Open.opensF_one rfl (by kernel_rfl) (Open.opens_slice Tryd.underlying40 (Open.opens_int Tryd.underlying3) (by kernel_rfl) rfl)))))))))) (by kernel_rfl) rfl) hsz (j := 3) (t := 23) rfl rfl k3
  obtain ⟨rfl, rfl, rfl⟩ : a3 = A3 ∧ len3 = l3.length ∧ cap3 = c3 := by simpa [Value.cells] using hcs3
  obtain ⟨a4, rfl, rfl, rfl, w4⟩ := open_int Tryd.underlying3 (hval 4 3 v4 rfl rfl) h4
  refine (Cl.plays_row a0 a1 a2 cap2 l2 a3 cap3 l3 a4 W w0 w1 hr2 hc2 hV2 hr3 hc3 hV3 w4).mono fun e W' ⟨he, bel⟩ => ?_
  subst he
  exact ⟨_, rfl, _, _, _, [], _, [], hW', trodAll_mk1 (shut_bool Tryd.underlying4 _), (trodAll_cons_mk (shut_int Tryd.underlying3 w0) (trodAll_cons_mk (shut_int Tryd.underlying3 w1) (trodAll_cons_mk (Below.trod laidOut (by kernel_rfl) (of_decide_eq_true (by kernel_rfl)) k2 bel lt2) (trodAll_cons_mk (Below.trod laidOut (by kernel_rfl) (of_decide_eq_true (by kernel_rfl)) k3 bel lt3) (trodAll_cons_mk (shut_int Tryd.underlying3 w4) trodAll_mk0))))), rfl, bel.frame _, fun h => by cases h⟩
theorem over : Rows.cellPlaysRow.holds Tryd.pinned (OpenSpec.ofChange Rows.cellPlaysSpec) :=
  OpenClaim.holds_of_wide 3 Tryd.f3 rfl rfl rfl rfl rfl rfl rfl ⟨rfl, rfl, rfl, rfl, rfl⟩ rfl rfl rfl rfl rfl (by kernel_rfl) Tryd.func3 (by kernel_rfl)
    (of_decide_eq_true (by kernel_rfl)) (by unfold Func.isWrapper; first | (rw [if_pos (by decide +kernel)]; kernel_rfl) | (rw [if_neg (by decide +kernel)]; exact ⟨rfl, rfl⟩))
    (fun os started H enc _ => lifted os started H enc)
end Go.Proofs.YtpgifeoigconbaaDoor.cellPlays
namespace Go.Proofs.YtpgifeoigconbaaDoor
open Go
/-- The tied card. -/
theorem cellPlaysCard_holds : Rows.CellPlaysCardSaid :=
  Claim7.holds_tied_plain_at .later [] [.data, .pinned] true (true, "0fd675e76e79e6f2d8f8432abb6cac55db8e06a51cd43435bade8c7b462a1a8a") false cellPlays.over (fun _ h => by cases h) (by kernel_rfl) (fun _ h => by cases h) cellPlays_row_tie rfl ⟨rfl, rfl⟩ (by kernel_rfl) rfl
    (fun f fn hf hfn => by
      obtain rfl : f = 3 := Option.some.inj ((show Tryd.prog.funcNamed Tryd.f3.name = some 3 by kernel_rfl).symm.trans hf) |>.symm
      obtain rfl : fn = Tryd.f3 := (Option.some.inj (Tryd.func3.symm.trans hfn)).symm
      exact ⟨by kernel_rfl, fun j t ht => by
        rw [Tryd.params3] at ht
        have hm : t ∈ [3, 3, 22, 23, 3] := by simpa using Array.mem_of_getElem? ht
        have hall : ([3, 3, 22, 23, 3].all fun u => !Tryd.prog.wantsStandIn u) = true := by kernel_rfl
        exact (show Tryd.prog.wantsStandIn t = false by simpa using List.all_eq_true.1 hall t hm)⟩)
    (by kernel_rfl)
#print axioms cellPlaysCard_holds
end Go.Proofs.YtpgifeoigconbaaDoor
