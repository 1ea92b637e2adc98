/- awake's parts: the closure, and what Apply gives at the fixed states. -/
import Derived.Test.YtldlkbjbfgieeaaGreatDoorSu
import Derived.Test.YtldlkbjbfgieeaaGreatDoorQx75
import Derived.Test.YtldlkbjbfgieeaaGreatDoorQx48
import Derived.Test.YtldlkbjbfgieeaaGreatDoorQx78
namespace Go.Proofs.YtldlkbjbfgieeaaGreatDoor.Ak
set_option linter.unusedVariables false
set_option linter.unusedSimpArgs false
open Go.RowKit Go.Proofs.YtldlkbjbfgieeaaGreatDoorW.PrintWords Go.Proofs.YtldlkbjbfgieeaaGreatDoorW.PrintLast Go.Proofs.YtldlkbjbfgieeaaGreatDoor.Mo Go.Proofs.YtldlkbjbfgieeaaGreatDoor.Q Go.Proofs.YtldlkbjbfgieeaaGreatDoor.Rw Go.Proofs.YtldlkbjbfgieeaaGreatDoor.Cb Go.Proofs.YtldlkbjbfgieeaaGreatDoor.Ch Go.Proofs.YtldlkbjbfgieeaaGreatDoor.Ap
open Go.Proofs.YtldlkbjbfgieeaaGreatDoor.Ri (rightS rightO)
abbrev wk (id : ByteArray) : W := ⟨id, 0, 0, 1, 1, ⟨#[]⟩⟩
abbrev ndz : N := ⟨⟨#[]⟩, 0, 0, ⟨#[]⟩, false⟩
abbrev wkz : W := ⟨⟨#[]⟩, 0, 0, 0, 0, ⟨#[]⟩⟩
theorem ap_b : applyS 0 [wk ⟨#[97]⟩, wk ⟨#[99]⟩] [] 1 (wk ⟨#[98]⟩) ndz ⟨#[]⟩ 0 = (0, [wk ⟨#[97]⟩, wk ⟨#[98]⟩, wk ⟨#[99]⟩], [], 0) := by kernel_rfl
theorem ap_d : applyS 0 [wk ⟨#[97]⟩, wk ⟨#[99]⟩] [] 2 wkz ndz ⟨#[100]⟩ 0 = (0, [], [], 122) := by kernel_rfl
theorem ap_a : applyS 0 [wk ⟨#[97]⟩, wk ⟨#[99]⟩] [] 1 (wk ⟨#[97]⟩) ndz ⟨#[]⟩ 0 = (0, [], [], 121) := by kernel_rfl
theorem right_ac : rightS 0 [wk ⟨#[97]⟩, wk ⟨#[99]⟩] [] = true := by decide +kernel
theorem same_abc : billetlaw12_Same.f 30 0 [wk ⟨#[97]⟩, wk ⟨#[98]⟩, wk ⟨#[99]⟩] [] 0 [wk ⟨#[97]⟩, wk ⟨#[98]⟩, wk ⟨#[99]⟩] [] = some true := by kernel_rfl
theorem right_n : intent_rightOp.f 30 6 ⟨#[]⟩ 0 0 0 0 ⟨#[]⟩ ⟨#[]⟩ 0 0 ⟨#[]⟩ false ⟨#[110]⟩ 0 = some true := by kernel_rfl
theorem num_6 : Giv.varint_Num.f 6 = some ⟨#[12]⟩ := by kernel_rfl
theorem text_n : varint_Text.f ⟨#[110]⟩ = some ⟨#[2, 110]⟩ := by kernel_rfl
set_option maxRecDepth 100000 in
theorem putn_any (w : World) : Calls Tryz.prog 19 #[opV 6 wkz ndz ⟨#[110]⟩ 0] w fun e w' => e = .returned (.tuple #[.string ⟨#[12, 2, 110]⟩, .int .i64 0]) ∧ Below w.heap.size w w' := by
  have hB := below_alloc (Below.refl w.heap.size w) (opC 6 wkz ndz ⟨#[110]⟩ 0)
  have hO := blk_new w (opC 6 wkz ndz ⟨#[110]⟩ 0)
  go_enter Tryz.func19, Tryz.ntmps19
  go_wp2_with (first | (go_at_call 29; refine (intent_rightOp.calls 30 6 ⟨#[]⟩ 0 0 0 0 ⟨#[]⟩ ⟨#[]⟩ 0 0 ⟨#[]⟩ false ⟨#[110]⟩ 0 true _ right_n).mono ?_; rintro e w1 ⟨rfl, hb1⟩; have hO1 := blk_below hO hb1; have hB1 := below_then hB hB.size hb1; have o0 := (blk_cell hO1 0).trans rfl) | (go_at_call 45; refine (Giv.varint_Num.calls 6 _ _ num_6).mono ?_; rintro e w2 ⟨rfl, hb2⟩; have hO2 := blk_below hO1 hb2; have hB2 := below_then hB1 hB1.size hb2; have o0 := (blk_cell hO2 0).trans rfl; have o12 := (blk_cell hO2 12).trans rfl) | (go_at_call 48; refine (varint_Text.calls _ _ _ text_n).mono ?_; rintro e w3 ⟨rfl, hb3⟩; have hB3 := below_then hB2 hB2.size hb3))
  go_ret2
  exact ⟨rfl, hB3⟩
theorem w_any (id : ByteArray) (w : World) : Calls Tryz.prog 28 #[.string id] w fun e w' => e = .returned (.agg #[.string id, .int .i64 0, .int .i64 0, .int .i64 1, .int .i64 1, .string ⟨#[]⟩]) ∧ Below w.heap.size w w' := by
  have hB := below_alloc (Below.refl w.heap.size w) (.cells #[.string id, .int .i64 0, .int .i64 0, .int .i64 1, .int .i64 1, .string ⟨#[]⟩] 32)
  have hO := blk_new w (.cells #[.string id, .int .i64 0, .int .i64 0, .int .i64 1, .int .i64 1, .string ⟨#[]⟩] 32)
  go_enter Tryz.func28, Tryz.ntmps28
  go_wp2_with fail
  refine bodyPost_ret (results_cell_row rfl _ _ _ 32 _ (0, 0) _ rfl hO Tryz.underlying32 rfl (by kernel_rfl)) rfl ?_
  exact ⟨rfl, hB⟩
/-- a call of a function that stands in a temporary -/
theorem goesV_ {P : Program} {ops : Array Oper} {Q : Exit → Act → World → Prop} {oi : Oper} {N : Option Tmp} {a : Act} {w : World} {K : Act → World → Prop} {f : FuncId} {fn : Func} {xs : Array Operand} {ts : Array TypeId} {t : Tmp} (hf : P.funcs[f]? = some fn) (hname : (fn.name == "runtime.NumGoroutine") = false) (hb : fn.body.isSome = true) (args : Array Value)
    (hw : Region.wanted oi (yielded ops a.tmps) = true) (hN : oi.dst = N) (hop : oi.op = .call { callee := .value (.tmp t), args := xs, argTypes := ts }) (hv : a.eval (.tmp t) = .func (.func f) #[] #[]) (hargs : xs.map a.eval = args)
    (h : Calls P f args w fun e w' => ∃ v, e = .returned v ∧ K (a.put N v) w') : if Region.wanted oi (yielded ops a.tmps) = true then Oper.wp P oi a w K Q else K (a.put N undef) w := by
  refine call_ f args hw hN ?_ h
  have he := enters_ hf hname hb args w
  unfold execOp
  simp [hop, resolve, Deferred.ofValue, invoke, hv, hargs, he]
/-- a made row of workloads -/
theorem row_R {w : World} {base q : Nat} (l : List W) (hq : w.heap[q]? = some (.cells (InW.fl l).toArray 32 (0, 0))) (hb : base ≤ q) (hm : l.length ≤ 1000) : k32.R 32 w base (fun _ => True) (.slice (some ⟨q, 0, none⟩) l.length l.length) l := by
  have hlen : (InW.fl l).length = l.length * 6 := InW.fl_len l
  refine InW.R_iff.2 ⟨fun _ _ => trivial, hlen, .inr ⟨q, l.length, _, rfl, hb, hq, Nat.le_refl _, Nat.le_trans hm (by decide), by rw [List.size_toArray, hlen], ?_⟩⟩
  rw [← hlen]
  exact List.take_length
end Go.Proofs.YtldlkbjbfgieeaaGreatDoor.Ak
