import Derived.Test.YtdgaancbeakfdaaDoorRows
import Derived.Test.YtdgaancbeakfdaaDoorMt
import Derived.Test.YtdgaancbeakfdaaDoorOpen
import Derived.WalkKit
import Derived.ProofKit
import Derived.OpenShut
import Derived.ShutString
import Derived.ChangeOld
import Derived.Below
import Derived.SizedLaws
import Derived.Test.YtdgaancbeakfdaaDoorTie
import Derived.Test.YtdgaancbeakfdaaDoorCards
import Derived.SevenTiedAt
import Derived.Lay
import Derived.LaidMore
import Derived.Stop.Joined
namespace Go.Proofs.YtdgaancbeakfdaaDoor.msgTells
open Go.ChangeShapes Go.WideShapes Go.ChangeAt Go.RowKit
open Go.ChangeMaps (open_string shut_string)
open Go.Proofs.YtdgaancbeakfdaaDoorW.PrintWords
set_option linter.unusedVariables false
set_option linter.unusedSimpArgs false
theorem own : ownKnob Tryd.prog.godebug = none := by kernel_rfl
theorem laidOut : laidOutB Tryd.prog = true := by kernel_rfl
set_option maxRecDepth 100000 in
theorem lifted (os : Os) (started : os.Started) (H : Type) (enc : TypeId × Value → H) :
    ReturnsInHanded {} Tryd.checked os 3 .any (fun w args => (Rows.msgTellsSpec.pre enc Tryd.prog Tryd.f3 Rows.msgTellsRow.domain false w args ∧ laidMetH Tryd.prog Rows.msgTellsRow.laid w) ∧ sizedMet enc Tryd.prog Tryd.f3 (OpenSpec.ofChange Rows.msgTellsSpec) false w args) (Rows.msgTellsSpec.post enc Tryd.prog Tryd.f3 false true false false) := by
  refine returnsInHanded_of_change_and (C := Tryd.checked) (X := fun w _ => laidMetH Tryd.prog Rows.msgTellsRow.laid w) (fun _ _ _ hh h => h.of_heap hh) own started (by kernel_rfl) Tryd.func3
    (ChangeSpec.witness_shaped (enc := enc) (C := Tryd.checked) (os := os) (X := fun w _ => laidMetH Tryd.prog Rows.msgTellsRow.laid w) false (World.laidAll Tryd.prog os Rows.msgTellsRow.laid) #[.agg #[.int .i64 0, .int .i64 0, .int .i64 0, .int .i64 0, .int .i64 0, .int .i64 0, .slice none 0 0], .string ByteArray.empty] 8 (World.laidAll_os _ _ _)
      (World.shaped_of_ZipB (by kernel_rfl) (by kernel_rfl)) (by kernel_rfl) (by kernel_rfl) (by kernel_rfl)
      (by rw [MakeChecks.laidMetH_plain _ _ _ (by kernel_rfl)]; exact laidMet_laidAll _ (by kernel_rfl) (by kernel_rfl))) ?_
  intro W base args ds gs before hval0 hW hcnd hsz0 hL _
  have hsz : (DataW.weightsEach Tryd.prog (Tryd.f3.params.toList ++ Rows.msgTellsSpec.plain.varTypes Tryd.prog) (ds ++ gs)).all (· ≤ reachBytes) = true := hsz0
  have hval : ∀ (j : Nat) t v, Tryd.f3.params[j]? = some t → args[j]? = some v → Value.okWide Tryd.prog W .any base t v := hval0
  have hW' := hW
  obtain ⟨p, q, hA0, hV, rfl, hfz, hnd⟩ := hW
  have hA : DataW.TrodAll enc Tryd.prog W 0 (fun _ => true) true Tryd.f3.params.toList args.toList ds p := hA0
  rw [Tryd.params3] at hA hval hsz
  obtain ⟨v0, vs0, d0, ds0, p0, q0, hargs, rfl, rfl, h0, r0⟩ := trodAll_cons hA
  obtain ⟨v1, vs1, d1, ds1, p1, q1, rfl, rfl, rfl, h1, r1⟩ := trodAll_cons r0
  obtain ⟨rfl, rfl, rfl⟩ := trodAll_nil r1
  obtain rfl : args = #[v0, v1] := by cases args; simp_all
  obtain ⟨rfl, rfl⟩ := trodVars_none hV
  obtain ⟨cs0, rfl, _⟩ := okWide_struct Tryd.underlying24 (hval 0 24 v0 rfl rfl)
  have k0 := h0
  have lt0 : ∀ x ∈ p0, x.block < W.heap.size := by obtain ⟨m, hm⟩ := k0; exact DataW.trod_lt m _ _ _ hm
  obtain ⟨x0, hK0, hV0⟩ := Open.opened (Open.opens_iso (fun x : Go.Proofs.YtdgaancbeakfdaaDoor.Q.S24 => (x.f0, x.f1, x.f2, x.f3, x.f4, x.f5, x.f6)) (fun a => ⟨⟨a.1, a.2.1, a.2.2.1, a.2.2.2.1, a.2.2.2.2.1, a.2.2.2.2.2.1, a.2.2.2.2.2.2⟩, rfl⟩) (Open.opens_struct Tryd.underlying24 (by kernel_rfl) (Open.opensF_cons rfl (by kernel_rfl) (Open.opens_int Tryd.underlying3) (Open.opensF_cons rfl (by kernel_rfl) (Open.opens_int Tryd.underlying3) (Open.opensF_cons rfl (by kernel_rfl) (Open.opens_int Tryd.underlying3) (Open.opensF_cons rfl (by kernel_rfl) (Open.opens_int Tryd.underlying3) (Open.opensF_cons rfl (by kernel_rfl) (Open.opens_int Tryd.underlying3) (Open.opensF_cons rfl (by kernel_rfl) (Open.opens_int Tryd.underlying3) (Open.opensF_one rfl (by kernel_rfl) (Open.opens_slice Tryd.underlying22 (Open.opens_iso (fun x : Go.Proofs.YtdgaancbeakfdaaDoor.Q.S42 => (x.f0, x.f1, x.f2)) (fun a => ⟨⟨a.1, a.2.1, a.2.2⟩, rfl⟩) (Open.opens_struct Tryd.underlying42 (by kernel_rfl) (Open.opensF_cons rfl (by kernel_rfl) (Open.opens_string Tryd.underlying9) (Open.opensF_cons rfl (by kernel_rfl) (Open.opens_string Tryd.underlying9) (Open.opensF_one rfl (by kernel_rfl) (Open.opens_int Tryd.underlying3)))))) (by kernel_rfl) rfl)))))))))) hsz (j := 0) (t := 24) rfl rfl k0
  obtain ⟨A0, c0, hcs0, hc0, hr0⟩ := Go.Proofs.YtdgaancbeakfdaaDoor.Q.k24_open hK0
  obtain rfl : cs0 = #[.int .i64 x0.f0, .int .i64 x0.f1, .int .i64 x0.f2, .int .i64 x0.f3, .int .i64 x0.f4, .int .i64 x0.f5, .slice A0 x0.f6.length c0] := by apply Array.toList_inj.1; exact hcs0
  obtain ⟨a1, rfl, rfl, rfl, y1⟩ := open_string Tryd.underlying9 (hval 1 9 v1 rfl rfl) h1
  have w1 : a1.size ≤ 140737488351232 := by
    have z := sized_string hsz (j := 1) (t := 9) rfl rfl
    rw [Array.length_toList] at z
    exact z
  refine (Mt.tells x0.f0 x0.f1 x0.f2 x0.f3 x0.f4 x0.f5 A0 c0 x0.f6 a1 W hr0 hc0 hV0 w1).mono fun e W' ⟨he, bel⟩ => ?_
  subst he
  exact ⟨_, rfl, _, _, _, [], _, [], hW', trodAll_mk1 (shut_bool Tryd.underlying4 _), (trodAll_cons_mk (Below.trod laidOut (by kernel_rfl) (of_decide_eq_true (by kernel_rfl)) k0 bel lt0) (trodAll_cons_mk (shut_string Tryd.underlying9 y1) trodAll_mk0)), rfl, bel.frame _, fun h => by cases h⟩
theorem over : Rows.msgTellsRow.holds Tryd.pinned (OpenSpec.ofChange Rows.msgTellsSpec) :=
  OpenClaim.holds_of_wide 3 Tryd.f3 rfl rfl rfl rfl rfl rfl rfl ⟨rfl, rfl, rfl, rfl, rfl⟩ rfl rfl rfl rfl rfl (by kernel_rfl) Tryd.func3 (by kernel_rfl)
    (of_decide_eq_true (by kernel_rfl)) (by unfold Func.isWrapper; first | (rw [if_pos (by decide +kernel)]; kernel_rfl) | (rw [if_neg (by decide +kernel)]; exact ⟨rfl, rfl⟩))
    (fun os started H enc _ => lifted os started H enc)
end Go.Proofs.YtdgaancbeakfdaaDoor.msgTells
namespace Go.Proofs.YtdgaancbeakfdaaDoor
open Go
/-- The tied card. -/
theorem msgTellsCard_holds : Rows.MsgTellsCardSaid :=
  Claim7.holds_tied_plain_at .later [] [.data, .pinned] true (true, "c0345a7d2a4a366ec7bc746894cae8ccedca7689744779a578791e07f182d5c7") false msgTells.over (fun _ h => by cases h) (by kernel_rfl) (fun _ h => by cases h) msgTells_row_tie rfl ⟨rfl, rfl⟩ (by kernel_rfl) rfl
    (fun f fn hf hfn => by
      obtain rfl : f = 3 := Option.some.inj ((show Tryd.prog.funcNamed Tryd.f3.name = some 3 by kernel_rfl).symm.trans hf) |>.symm
      obtain rfl : fn = Tryd.f3 := (Option.some.inj (Tryd.func3.symm.trans hfn)).symm
      exact ⟨by kernel_rfl, fun j t ht => by
        rw [Tryd.params3] at ht
        have hm : t ∈ [24, 9] := by simpa using Array.mem_of_getElem? ht
        have hall : ([24, 9].all fun u => !Tryd.prog.wantsStandIn u) = true := by kernel_rfl
        exact (show Tryd.prog.wantsStandIn t = false by simpa using List.all_eq_true.1 hall t hm)⟩)
    (by kernel_rfl)
#print axioms msgTellsCard_holds
end Go.Proofs.YtdgaancbeakfdaaDoor
