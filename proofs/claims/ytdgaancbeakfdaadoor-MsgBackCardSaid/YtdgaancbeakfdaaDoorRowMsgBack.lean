import Derived.Test.YtdgaancbeakfdaaDoorRows
import Derived.Test.YtdgaancbeakfdaaDoorMb
import Derived.Test.YtdgaancbeakfdaaDoorOpen
import Derived.WalkKit
import Derived.ProofKit
import Derived.OpenShut
import Derived.ShutString
import Derived.ChangeOld
import Derived.Below
import Derived.SizedLaws
import Derived.Test.YtdgaancbeakfdaaDoorTie
import Derived.Test.YtdgaancbeakfdaaDoorCards
import Derived.SevenTiedAt
import Derived.Lay
import Derived.LaidMore
import Derived.Stop.Joined
namespace Go.Proofs.YtdgaancbeakfdaaDoor.msgBack
open Go.ChangeShapes Go.WideShapes Go.ChangeAt Go.RowKit
open Go.ChangeMaps (open_string shut_string)
open Go.Proofs.YtdgaancbeakfdaaDoorW.PrintWords
set_option linter.unusedVariables false
set_option linter.unusedSimpArgs false
theorem own : ownKnob Tryd.prog.godebug = none := by kernel_rfl
theorem laidOut : laidOutB Tryd.prog = true := by kernel_rfl
set_option maxRecDepth 100000 in
theorem lifted (os : Os) (started : os.Started) (H : Type) (enc : TypeId × Value → H) :
    ReturnsInHanded {} Tryd.checked os 4 .any (fun w args => (Rows.msgBackSpec.pre enc Tryd.prog Tryd.f4 Rows.msgBackRow.domain false w args ∧ laidMetH Tryd.prog Rows.msgBackRow.laid w) ∧ sizedMet enc Tryd.prog Tryd.f4 (OpenSpec.ofChange Rows.msgBackSpec) false w args) (Rows.msgBackSpec.post enc Tryd.prog Tryd.f4 false true false false) := by
  refine returnsInHanded_of_change_and (C := Tryd.checked) (X := fun w _ => laidMetH Tryd.prog Rows.msgBackRow.laid w) (fun _ _ _ hh h => h.of_heap hh) own started (by kernel_rfl) Tryd.func4
    (ChangeSpec.witness_shaped (enc := enc) (C := Tryd.checked) (os := os) (X := fun w _ => laidMetH Tryd.prog Rows.msgBackRow.laid w) false (World.laidAll Tryd.prog os Rows.msgBackRow.laid) #[.agg #[.int .i64 0, .int .i64 0, .int .i64 0, .int .i64 0, .int .i64 0, .int .i64 0, .slice none 0 0], .slice none 0 0, .agg #[.int .i64 0, .int .i64 0, .int .i64 0, .int .i64 0, .int .i64 0, .int .i64 0, .slice none 0 0], .slice none 0 0] 8 (World.laidAll_os _ _ _)
      (World.shaped_of_ZipB (by kernel_rfl) (by kernel_rfl)) (by kernel_rfl) (by kernel_rfl) (by kernel_rfl)
      (by rw [MakeChecks.laidMetH_plain _ _ _ (by kernel_rfl)]; exact laidMet_laidAll _ (by kernel_rfl) (by kernel_rfl))) ?_
  intro W base args ds gs before hval0 hW hcnd hsz0 hL _
  have hsz : (DataW.weightsEach Tryd.prog (Tryd.f4.params.toList ++ Rows.msgBackSpec.plain.varTypes Tryd.prog) (ds ++ gs)).all (· ≤ reachBytes) = true := hsz0
  have hval : ∀ (j : Nat) t v, Tryd.f4.params[j]? = some t → args[j]? = some v → Value.okWide Tryd.prog W .any base t v := hval0
  have hW' := hW
  obtain ⟨p, q, hA0, hV, rfl, hfz, hnd⟩ := hW
  have hA : DataW.TrodAll enc Tryd.prog W 0 (fun _ => true) true Tryd.f4.params.toList args.toList ds p := hA0
  rw [Tryd.params4] at hA hval hsz
  obtain ⟨v0, vs0, d0, ds0, p0, q0, hargs, rfl, rfl, h0, r0⟩ := trodAll_cons hA
  obtain ⟨v1, vs1, d1, ds1, p1, q1, rfl, rfl, rfl, h1, r1⟩ := trodAll_cons r0
  obtain ⟨v2, vs2, d2, ds2, p2, q2, rfl, rfl, rfl, h2, r2⟩ := trodAll_cons r1
  obtain ⟨v3, vs3, d3, ds3, p3, q3, rfl, rfl, rfl, h3, r3⟩ := trodAll_cons r2
  obtain ⟨rfl, rfl, rfl⟩ := trodAll_nil r3
  obtain rfl : args = #[v0, v1, v2, v3] := by cases args; simp_all
  obtain ⟨rfl, rfl⟩ := trodVars_none hV
  obtain ⟨cs0, rfl, _⟩ := okWide_struct Tryd.underlying24 (hval 0 24 v0 rfl rfl)
  have k0 := h0
  have lt0 : ∀ x ∈ p0, x.block < W.heap.size := by obtain ⟨m, hm⟩ := k0; exact DataW.trod_lt m _ _ _ hm
  obtain ⟨x0, hK0, hV0⟩ := Open.opened (Open.opens_iso (fun x : Go.Proofs.YtdgaancbeakfdaaDoor.Q.S24 => (x.f0, x.f1, x.f2, x.f3, x.f4, x.f5, x.f6)) (fun a => ⟨⟨a.1, a.2.1, a.2.2.1, a.2.2.2.1, a.2.2.2.2.1, a.2.2.2.2.2.1, a.2.2.2.2.2.2⟩, rfl⟩) (Open.opens_struct Tryd.underlying24 (by kernel_rfl) (Open.opensF_cons rfl (by kernel_rfl) (Open.opens_int Tryd.underlying3) (Open.opensF_cons rfl (by kernel_rfl) (Open.opens_int Tryd.underlying3) (Open.opensF_cons rfl (by kernel_rfl) (Open.opens_int Tryd.underlying3) (Open.opensF_cons rfl (by kernel_rfl) (Open.opens_int Tryd.underlying3) (Open.opensF_cons rfl (by kernel_rfl) (Open.opens_int Tryd.underlying3) (Open.opensF_cons rfl (by kernel_rfl) (Open.opens_int Tryd.underlying3) (Open.opensF_one rfl (by kernel_rfl) (Open.opens_slice Tryd.underlying22 (Open.opens_iso (fun x : Go.Proofs.YtdgaancbeakfdaaDoor.Q.S42 => (x.f0, x.f1, x.f2)) (fun a => ⟨⟨a.1, a.2.1, a.2.2⟩, rfl⟩) (Open.opens_struct Tryd.underlying42 (by kernel_rfl) (Open.opensF_cons rfl (by kernel_rfl) (Open.opens_string Tryd.underlying9) (Open.opensF_cons rfl (by kernel_rfl) (Open.opens_string Tryd.underlying9) (Open.opensF_one rfl (by kernel_rfl) (Open.opens_int Tryd.underlying3)))))) (by kernel_rfl) rfl)))))))))) hsz (j := 0) (t := 24) rfl rfl k0
  obtain ⟨A0, c0, hcs0, hc0, hr0⟩ := Go.Proofs.YtdgaancbeakfdaaDoor.Q.k24_open hK0
  obtain rfl : cs0 = #[.int .i64 x0.f0, .int .i64 x0.f1, .int .i64 x0.f2, .int .i64 x0.f3, .int .i64 x0.f4, .int .i64 x0.f5, .slice A0 x0.f6.length c0] := by apply Array.toList_inj.1; exact hcs0
  obtain ⟨a1, len1, cap1, rfl⟩ := okWide_slice Tryd.underlying34 (hval 1 34 v1 rfl rfl)
  have k1 := h1
  have lt1 : ∀ x ∈ p1, x.block < W.heap.size := by obtain ⟨m, hm⟩ := k1; exact DataW.trod_lt m _ _ _ hm
  obtain ⟨l1, ⟨A1, c1, hcs1, hc1, hr1⟩, hV1⟩ := Open.opened (Open.opens_slice Tryd.underlying34 (Open.opens_int Tryd.underlying3) (by kernel_rfl) rfl) hsz (j := 1) (t := 34) rfl rfl k1
  obtain ⟨rfl, rfl, rfl⟩ : a1 = A1 ∧ len1 = l1.length ∧ cap1 = c1 := by simpa [Value.cells] using hcs1
  obtain ⟨cs2, rfl, _⟩ := okWide_struct Tryd.underlying24 (hval 2 24 v2 rfl rfl)
  have k2 := h2
  have lt2 : ∀ x ∈ p2, x.block < W.heap.size := by obtain ⟨m, hm⟩ := k2; exact DataW.trod_lt m _ _ _ hm
  obtain ⟨x2, hK2, hV2⟩ := Open.opened (Open.opens_iso (fun x : Go.Proofs.YtdgaancbeakfdaaDoor.Q.S24 => (x.f0, x.f1, x.f2, x.f3, x.f4, x.f5, x.f6)) (fun a => ⟨⟨a.1, a.2.1, a.2.2.1, a.2.2.2.1, a.2.2.2.2.1, a.2.2.2.2.2.1, a.2.2.2.2.2.2⟩, rfl⟩) (Open.opens_struct Tryd.underlying24 (by kernel_rfl) (Open.opensF_cons rfl (by kernel_rfl) (Open.opens_int Tryd.underlying3) (Open.opensF_cons rfl (by kernel_rfl) (Open.opens_int Tryd.underlying3) (Open.opensF_cons rfl (by kernel_rfl) (Open.opens_int Tryd.underlying3) (Open.opensF_cons rfl (by kernel_rfl) (Open.opens_int Tryd.underlying3) (Open.opensF_cons rfl (by kernel_rfl) (Open.opens_int Tryd.underlying3) (Open.opensF_cons rfl (by kernel_rfl) (Open.opens_int Tryd.underlying3) (Open.opensF_one rfl (by kernel_rfl) (Open.opens_slice Tryd.underlying22 (Open.opens_iso (fun x : Go.Proofs.YtdgaancbeakfdaaDoor.Q.S42 => (x.f0, x.f1, x.f2)) (fun a => ⟨⟨a.1, a.2.1, a.2.2⟩, rfl⟩) (Open.opens_struct Tryd.underlying42 (by kernel_rfl) (Open.opensF_cons rfl (by kernel_rfl) (Open.opens_string Tryd.underlying9) (Open.opensF_cons rfl (by kernel_rfl) (Open.opens_string Tryd.underlying9) (Open.opensF_one rfl (by kernel_rfl) (Open.opens_int Tryd.underlying3)))))) (by kernel_rfl) rfl)))))))))) hsz (j := 2) (t := 24) rfl rfl k2
  obtain ⟨A2, c2, hcs2, hc2, hr2⟩ := Go.Proofs.YtdgaancbeakfdaaDoor.Q.k24_open hK2
  obtain rfl : cs2 = #[.int .i64 x2.f0, .int .i64 x2.f1, .int .i64 x2.f2, .int .i64 x2.f3, .int .i64 x2.f4, .int .i64 x2.f5, .slice A2 x2.f6.length c2] := by apply Array.toList_inj.1; exact hcs2
  obtain ⟨a3, len3, cap3, rfl⟩ := okWide_slice Tryd.underlying34 (hval 3 34 v3 rfl rfl)
  have k3 := h3
  have lt3 : ∀ x ∈ p3, x.block < W.heap.size := by obtain ⟨m, hm⟩ := k3; exact DataW.trod_lt m _ _ _ hm
  obtain ⟨l3, ⟨A3, c3, hcs3, hc3, hr3⟩, hV3⟩ := Open.opened (Open.opens_slice Tryd.underlying34 (Open.opens_int Tryd.underlying3) (by kernel_rfl) rfl) hsz (j := 3) (t := 34) rfl rfl k3
  obtain ⟨rfl, rfl, rfl⟩ : a3 = A3 ∧ len3 = l3.length ∧ cap3 = c3 := by simpa [Value.cells] using hcs3
  refine (Mb.back x0.f0 x0.f1 x0.f2 x0.f3 x0.f4 x0.f5 A0 c0 x0.f6 a1 cap1 l1 x2.f0 x2.f1 x2.f2 x2.f3 x2.f4 x2.f5 A2 c2 x2.f6 a3 cap3 l3 W hr0 hc0 hV0 hr1 hc1 hV1 hr2 hc2 hV2 hr3 hc3 hV3).mono fun e W' ⟨he, bel⟩ => ?_
  subst he
  exact ⟨_, rfl, _, _, _, [], _, [], hW', trodAll_mk1 (shut_bool Tryd.underlying4 _), (trodAll_cons_mk (Below.trod laidOut (by kernel_rfl) (of_decide_eq_true (by kernel_rfl)) k0 bel lt0) (trodAll_cons_mk (Below.trod laidOut (by kernel_rfl) (of_decide_eq_true (by kernel_rfl)) k1 bel lt1) (trodAll_cons_mk (Below.trod laidOut (by kernel_rfl) (of_decide_eq_true (by kernel_rfl)) k2 bel lt2) (trodAll_cons_mk (Below.trod laidOut (by kernel_rfl) (of_decide_eq_true (by kernel_rfl)) k3 bel lt3) trodAll_mk0)))), rfl, bel.frame _, fun h => by cases h⟩
theorem over : Rows.msgBackRow.holds Tryd.pinned (OpenSpec.ofChange Rows.msgBackSpec) :=
  OpenClaim.holds_of_wide 4 Tryd.f4 rfl rfl rfl rfl rfl rfl rfl ⟨rfl, rfl, rfl, rfl, rfl⟩ rfl rfl rfl rfl rfl (by kernel_rfl) Tryd.func4 (by kernel_rfl)
    (of_decide_eq_true (by kernel_rfl)) (by unfold Func.isWrapper; first | (rw [if_pos (by decide +kernel)]; kernel_rfl) | (rw [if_neg (by decide +kernel)]; exact ⟨rfl, rfl⟩))
    (fun os started H enc _ => lifted os started H enc)
end Go.Proofs.YtdgaancbeakfdaaDoor.msgBack
namespace Go.Proofs.YtdgaancbeakfdaaDoor
open Go
/-- The tied card. -/
theorem msgBackCard_holds : Rows.MsgBackCardSaid :=
  Claim7.holds_tied_plain_at .later [] [.data, .pinned] true (true, "c0345a7d2a4a366ec7bc746894cae8ccedca7689744779a578791e07f182d5c7") false msgBack.over (fun _ h => by cases h) (by kernel_rfl) (fun _ h => by cases h) msgBack_row_tie rfl ⟨rfl, rfl⟩ (by kernel_rfl) rfl
    (fun f fn hf hfn => by
      obtain rfl : f = 4 := Option.some.inj ((show Tryd.prog.funcNamed Tryd.f4.name = some 4 by kernel_rfl).symm.trans hf) |>.symm
      obtain rfl : fn = Tryd.f4 := (Option.some.inj (Tryd.func4.symm.trans hfn)).symm
      exact ⟨by kernel_rfl, fun j t ht => by
        rw [Tryd.params4] at ht
        have hm : t ∈ [24, 34, 24, 34] := by simpa using Array.mem_of_getElem? ht
        have hall : ([24, 34, 24, 34].all fun u => !Tryd.prog.wantsStandIn u) = true := by kernel_rfl
        exact (show Tryd.prog.wantsStandIn t = false by simpa using List.all_eq_true.1 hall t hm)⟩)
    (by kernel_rfl)
#print axioms msgBackCard_holds
end Go.Proofs.YtdgaancbeakfdaaDoor
