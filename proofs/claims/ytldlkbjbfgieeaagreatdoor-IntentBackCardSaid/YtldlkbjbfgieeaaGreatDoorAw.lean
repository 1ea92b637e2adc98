/- awake's parts: the closure, and what Apply gives at the fixed states. -/
import Derived.Test.YtldlkbjbfgieeaaGreatDoorSu
import Derived.Test.YtldlkbjbfgieeaaGreatDoorSy
import Derived.Test.YtldlkbjbfgieeaaGreatDoorQx78
import Derived.Test.YtldlkbjbfgieeaaGreatDoorMo
import Derived.Test.YtldlkbjbfgieeaaGreatDoorIb
namespace Go.Proofs.YtldlkbjbfgieeaaGreatDoor.Ak
set_option linter.unusedVariables false
set_option linter.unusedSimpArgs false
open Go.RowKit Go.Proofs.YtldlkbjbfgieeaaGreatDoorW.PrintWords Go.Proofs.YtldlkbjbfgieeaaGreatDoorW.PrintLast Mo Q Rw Cb Ch Ap
open Go.Proofs.YtldlkbjbfgieeaaGreatDoor.Ri (rightS rightO)
abbrev wk (id : ByteArray) : W := ⟨id, 0, 0, 1, 1, ⟨#[]⟩⟩
abbrev ndz : N := ⟨⟨#[]⟩, 0, 0, ⟨#[]⟩, false⟩
abbrev wkz : W := ⟨⟨#[]⟩, 0, 0, 0, 0, ⟨#[]⟩⟩
theorem ap_b : applyS 0 [wk ⟨#[97]⟩, wk ⟨#[99]⟩] [] 1 (wk ⟨#[98]⟩) ndz ⟨#[]⟩ 0 = (0, [wk ⟨#[97]⟩, wk ⟨#[98]⟩, wk ⟨#[99]⟩], [], 0) := by kernel_rfl
theorem ap_d : applyS 0 [wk ⟨#[97]⟩, wk ⟨#[99]⟩] [] 2 wkz ndz ⟨#[100]⟩ 0 = (0, [], [], 122) := by kernel_rfl
theorem ap_a : applyS 0 [wk ⟨#[97]⟩, wk ⟨#[99]⟩] [] 1 (wk ⟨#[97]⟩) ndz ⟨#[]⟩ 0 = (0, [], [], 121) := by kernel_rfl
theorem right_ac : rightS 0 [wk ⟨#[97]⟩, wk ⟨#[99]⟩] [] = true := by decide +kernel
theorem right_n : rightO 6 wkz ndz ⟨#[110]⟩ 0 = true := by decide +kernel
theorem num_6 : Giv.varint_Num.f 6 = some ⟨#[12]⟩ := by kernel_rfl
theorem text_n : varint_Text.f ⟨#[110]⟩ = some ⟨#[2, 110]⟩ := by kernel_rfl
set_option maxRecDepth 100000 in
theorem putn_any (w : World) : Calls Tryz.prog 19 #[opV 6 wkz ndz ⟨#[110]⟩ 0] w fun e w' => e = .returned (.tuple #[.string ⟨#[12, 2, 110]⟩, .int .i64 0]) ∧ Below w.heap.size w w' := by
 have hB := below_alloc (Below.refl w.heap.size w) (opC 6 wkz ndz ⟨#[110]⟩ 0)
 have hO := blk_new w (opC 6 wkz ndz ⟨#[110]⟩ 0)
 go_enter Tryz.func19, Tryz.ntmps19
 go_wp2_with (first | (go_at_call 29; refine (Ri.iop_any 6 wkz ndz ⟨#[110]⟩ 0 _ (by decide) (by decide)).mono ?_; rw [right_n]; rintro e w1 ⟨rfl, hb1⟩; have hO1 := blk_below hO hb1; have hB1 := below_then hB hB.size hb1; have o0 := (blk_cell hO1 0).trans rfl) | (go_at_call 45; refine (Giv.varint_Num.calls 6 _ _ num_6).mono ?_; rintro e w2 ⟨rfl, hb2⟩; have hO2 := blk_below hO1 hb2; have hB2 := below_then hB1 hB1.size hb2; have o0 := (blk_cell hO2 0).trans rfl; have o12 := (blk_cell hO2 12).trans rfl) | (go_at_call 48; refine (varint_Text.calls _ _ _ text_n).mono ?_; rintro e w3 ⟨rfl, hb3⟩; have hB3 := below_then hB2 hB2.size hb3))
 go_ret2
 exact ⟨rfl, hB3⟩
theorem w_any (id : ByteArray) (w : World) : Calls Tryz.prog 28 #[.string id] w fun e w' => e = .returned (.agg #[.string id, .int .i64 0, .int .i64 0, .int .i64 1, .int .i64 1, .string ⟨#[]⟩]) ∧ Below w.heap.size w w' := by
 have hB := below_alloc (Below.refl w.heap.size w) (.cells #[.string id, .int .i64 0, .int .i64 0, .int .i64 1, .int .i64 1, .string ⟨#[]⟩] 32)
 have hO := blk_new w (.cells #[.string id, .int .i64 0, .int .i64 0, .int .i64 1, .int .i64 1, .string ⟨#[]⟩] 32)
 go_enter Tryz.func28, Tryz.ntmps28
 go_wp2_with fail
 refine bodyPost_ret (results_cell_row rfl _ _ _ 32 _ (0, 0) _ rfl hO Tryz.underlying32 rfl (by kernel_rfl)) rfl ?_
 exact ⟨rfl, hB⟩
/-- a call of a function that stands in a temporary -/
theorem goesV_ {P : Program} {ops : Array Oper} {Q : Exit → Act → World → Prop} {oi : Oper} {N : Option Tmp} {a : Act} {w : World} {K : Act → World → Prop} {f : FuncId} {fn : Func} {xs : Array Operand} {ts : Array TypeId} {t : Tmp} (hf : P.funcs[f]? = some fn) (hname : (fn.name == "runtime.NumGoroutine") = false) (hb : fn.body.isSome = true) (args : Array Value)
 (hw : Region.wanted oi (yielded ops a.tmps) = true) (hN : oi.dst = N) (hop : oi.op = .call { callee := .value (.tmp t), args := xs, argTypes := ts }) (hv : a.eval (.tmp t) = .func (.func f) #[] #[]) (hargs : xs.map a.eval = args)
 (h : Calls P f args w fun e w' => ∃ v, e = .returned v ∧ K (a.put N v) w') : if Region.wanted oi (yielded ops a.tmps) = true then Oper.wp P oi a w K Q else K (a.put N undef) w := by
 refine call_ f args hw hN ?_ h
 have he := enters_ hf hname hb args w
 unfold execOp
 simp [hop, resolve, Deferred.ofValue, invoke, hv, hargs, he]
/-- a made row of workloads -/
theorem row_R {w : World} {base q : Nat} (l : List W) (hq : w.heap[q]? = some (.cells (InW.fl l).toArray 32 (0, 0))) (hb : base ≤ q) (hm : l.length ≤ 1000) : k32.R 32 w base (fun _ => True) (.slice (some ⟨q, 0, none⟩) l.length l.length) l := by
 have hlen : (InW.fl l).length = l.length * 6 := InW.fl_len l
 refine InW.R_iff.2 ⟨fun _ _ => trivial, hlen, .inr ⟨q, l.length, _, rfl, hb, hq, Nat.le_refl _, Nat.le_trans hm (by decide), by rw [List.size_toArray, hlen], ?_⟩⟩
 rw [← hlen]
 exact List.take_length
end Go.Proofs.YtldlkbjbfgieeaaGreatDoor.Ak
namespace Go.Proofs.YtldlkbjbfgieeaaGreatDoor.Aw
set_option linter.unusedVariables false
set_option linter.unusedSimpArgs false
open Go.RowKit Go.Proofs.YtldlkbjbfgieeaaGreatDoorW.PrintWords Go.Proofs.YtldlkbjbfgieeaaGreatDoorW.PrintLast Mo Q Rw Cb Ch Ap Ft Ak Is
open Go.Proofs.YtldlkbjbfgieeaaGreatDoor.Ri (rightS rightO stV Small)
abbrev lac : List W := [wk ⟨#[97]⟩, wk ⟨#[99]⟩]
abbrev labc : List W := [wk ⟨#[97]⟩, wk ⟨#[98]⟩, wk ⟨#[99]⟩]
abbrev rowC : Obj := .cells #[.string ⟨#[97]⟩, .int .i64 0, .int .i64 0, .int .i64 1, .int .i64 1, .string ⟨#[]⟩, .string ⟨#[99]⟩, .int .i64 0, .int .i64 0, .int .i64 1, .int .i64 1, .string ⟨#[]⟩] 32
abbrev rowD : Obj := .cells #[.string ⟨#[97]⟩, .int .i64 0, .int .i64 0, .int .i64 1, .int .i64 1, .string ⟨#[]⟩, .string ⟨#[98]⟩, .int .i64 0, .int .i64 0, .int .i64 1, .int .i64 1, .string ⟨#[]⟩, .string ⟨#[99]⟩, .int .i64 0, .int .i64 0, .int .i64 1, .int .i64 1, .string ⟨#[]⟩] 32
theorem small_ac : Small lac [] := ⟨fun z h => by
 rcases List.mem_cons.1 h with rfl | h
 ·decide
 ·rw [List.mem_singleton.1 h]; decide, fun z h => (by cases h)⟩
theorem sF {w w' : World} {g : Nat} {e : Int} {A B : Option Addr} {c d : Nat} {ws : List W} {ns : List N} (h : Fs w w' g e A B c d ws ns) :
 w'.cell? ⟨g, 0, none⟩ = some (.int .i64 e) ∧ w'.cell? ⟨g, 1, none⟩ = some (.slice A ws.length c) ∧ w'.cell? ⟨g, 2, none⟩ = some (.slice B ns.length d) :=
 ⟨(blk_cell h.1 0).trans rfl, (blk_cell h.1 1).trans rfl, (blk_cell h.1 2).trans rfl⟩
/-- two states at once -/
def F2 (w w' : World) (g x : Nat) (A A2 B2 : Option Addr) : Prop := Fs w w' g 0 A none 2 0 lac [] ∧ Fs w w' x 0 A2 B2 3 0 labc []
theorem F2.below {w w' w2 : World} {g x : Nat} {A A2 B2 : Option Addr} (h : F2 w w' g x A A2 B2) (hb : Below w'.heap.size w' w2) : F2 w w2 g x A A2 B2 := ⟨h.1.below hb, h.2.below hb⟩
theorem sF2 {w w' : World} {g x : Nat} {A A2 B2 : Option Addr} (h : F2 w w' g x A A2 B2) :
 w'.cell? ⟨g, 0, none⟩ = some (.int .i64 0) ∧ w'.cell? ⟨g, 1, none⟩ = some (.slice A 2 2) ∧ w'.cell? ⟨g, 2, none⟩ = some (.slice none 0 0) ∧ w'.cell? ⟨x, 0, none⟩ = some (.int .i64 0) ∧ w'.cell? ⟨x, 1, none⟩ = some (.slice A2 3 3) ∧ w'.cell? ⟨x, 2, none⟩ = some (.slice B2 0 0) :=
 ⟨(sF h.1).1, (sF h.1).2.1, (sF h.1).2.2, (sF h.2).1, (sF h.2).2.1, (sF h.2).2.2⟩
theorem F2.far {w w' : World} {g x y : Nat} {A A2 B2 : Option Addr} {cs : Array Value} (h : F2 w w' g x A A2 B2) (hg : g ≠ y) (hx : x ≠ y) (hge : w.heap.size ≤ y) (hb : w'.heap[y]? = some (.cells cs 27 (0, 0))) (a0 a1 a2 : Value) : F2 w (((w'.setCell ⟨y, 0, none⟩ a0).setCell ⟨y, 1, none⟩ a1).setCell ⟨y, 2, none⟩ a2) g x A A2 B2 :=
 ⟨h.1.far hg hge hb _ _ _, h.2.far hx hge hb _ _ _⟩
theorem oB : rightS 0 lac [] = true ∧ rightO 1 (wk ⟨#[98]⟩) ndz ⟨#[]⟩ 0 = true := by decide +kernel
theorem oD : rightS 0 lac [] = true ∧ rightO 2 wkz ndz ⟨#[100]⟩ 0 = true := by decide +kernel
theorem oA : rightS 0 lac [] = true ∧ rightO 1 (wk ⟨#[97]⟩) ndz ⟨#[]⟩ 0 = true := by decide +kernel
theorem oN : FiW.has lac ⟨#[100]⟩ = false := by decide +kernel
set_option maxHeartbeats 8000000 in
set_option maxRecDepth 100000 in
theorem awake_any (w : World) : Calls Tryz.prog 11 #[] w fun e w' => e = .returned (.bool true) ∧ Below w.heap.size w w' := by
 have hB := Below.refl w.heap.size w
 go_enter Tryz.func11, Tryz.ntmps11
 go_wp2_with (first | (go_at_call 28; refine (w_any _ _).mono ?_; rintro e w1 ⟨rfl, hb1⟩; replace hB := below_then hB hB.size hb1; clear hb1))
 have hs1 : (w1.alloc rowC).heap.size = w1.heap.size + 1 := by simp
 have hF := Aside0.mk (show Fs w ((w1.alloc rowC).alloc (stC 0 (some ⟨w1.heap.size, 0, none⟩) 2 2 none 0 0)) (w1.heap.size + 1) 0 (some ⟨w1.heap.size, 0, none⟩) none 2 0 lac [] from
  ⟨by rw [← hs1]; exact blk_new (w1.alloc rowC) _, ⟨2, row_R lac (blk_alloc (blk_new w1 rowC) _) hB.size (by decide)⟩, ⟨0, Kd.R_nil _ _ _ _ _⟩, below_alloc (below_alloc hB rowC) _⟩)
 clear hB hs1
 generalize w1.heap.size + 1 = g at *
 generalize w1.heap.size = q at *
 revert hF
 generalize (w1.alloc rowC).alloc (stC 0 (some ⟨q, 0, none⟩) 2 2 none 0 0) = wa
 intro hF
 have hap0 := fun W (hA : Kd.C k32 W (some ⟨q, 0, none⟩) 2 lac) (hN : Kd.C k34 W none 0 []) => apply_any 0 (some ⟨q, 0, none⟩) none 2 0 lac [] 1 (wk ⟨#[98]⟩) ndz ⟨#[]⟩ 0 W hA (by decide) hN (by decide) small_ac (by decide) (by decide) oB (Lib.hid (.inl rfl))
 generalize hR' : applyS 0 lac [] 1 (wk ⟨#[98]⟩) ndz ⟨#[]⟩ 0 = R at hap0
 have hap := Lib.hid hap0
 have hR := Lib.hid (hR'.symm.trans ap_b)
 clear hap0 hR'
 go_cut [3, 4] (fun s3 s4 wx => ∃ (x : Nat) (A2 B2 : Option Addr), s3 = .pointer (some ⟨x, 0, none⟩) ∧ s4 = .int .i64 0 ∧ w.heap.size ≤ x ∧ Aside0 (F2 w wx g x (some ⟨q, 0, none⟩) A2 B2))
 case first =>
  refine start_ (n := 11) (S := fun w' => w'.cell? ⟨g, 0, none⟩ = some (.int .i64 0) ∧ w'.cell? ⟨g, 1, none⟩ = some (.slice (some ⟨q, 0, none⟩) 2 2) ∧ w'.cell? ⟨g, 2, none⟩ = some (.slice none 0 0)) (ds := [9]) (bt 11 0) (by kernel_rfl) rfl (by kernel_rfl) (sF hF.out) (fun hHeld => ?_)
  replace hF := Aside0.mk (hF.out.below (below_drew (Below.refl _ _)))
  generalize wa.drew = wd at *
  refine ty 0 18 (bt 11 1) rfl rfl hHeld (h := ?_)
  refine py 1 19 (bt 11 3) rfl rfl (h := ?_)
  refine join_ (σ := Nat × Option Addr × Option Addr) 2 (bt 11 511) (fun s_ => [(20, .agg #[.string ⟨#[98]⟩, .int .i64 0, .int .i64 0, .int .i64 1, .int .i64 1, .string ⟨#[]⟩]), (21, opV 1 (wk ⟨#[98]⟩) ndz ⟨#[]⟩ 0), (22, .tuple #[stV R.1 s_.2.1 R.2.1.length R.2.1.length s_.2.2 R.2.2.1.length R.2.2.1.length, .int .i64 R.2.2.2]), (17, .tuple #[stV R.1 s_.2.1 R.2.1.length R.2.1.length s_.2.2 R.2.2.1.length R.2.2.1.length, .int .i64 R.2.2.2]), (23, stV R.1 s_.2.1 R.2.1.length R.2.1.length s_.2.2 R.2.2.1.length R.2.2.1.length), (24, .int .i64 R.2.2.2), (3, .pointer (some ⟨s_.1, 0, none⟩))]) (fun s_ w' => w.heap.size ≤ s_.1 ∧ g ≠ s_.1 ∧ w'.heap[s_.1]? = some (.cells #[.int .i64 0, .slice none 0 0, .slice none 0 0] 27 (0, 0)) ∧ Fs w w' g 0 (some ⟨q, 0, none⟩) none 2 0 lac [] ∧ RoW w w' s_.2.1 R.2.1 ∧ RoN w w' s_.2.2 R.2.2.1) ?_ (fun hJ => ?_)
  rotate_left
  ·refine two_ (i := 2) (j := 8) (Ni := some 20) (Nj := some 3) (bt 11 7) (bt 11 259) rfl rfl rfl rfl (by kernel_rfl) (by decide) (by decide) (fun K hK => ?_) (fun K hK => ?_)
   rotate_left
   ·refine puts_ (some 3) (by rfl) rfl (v := .pointer (some ⟨wd.heap.size, 0, none⟩)) (w1 := wd.alloc stZ) (by first | (go_simp; done) | (go_simp; rfl)) ?_; have hFa := Aside0.mk (hF.out.below (below_alloc (Below.refl _ _) stZ)); have hx := blk_new wd stZ; have hxg := hF.out.2.2.2.size; have hxo := Nat.ne_of_lt (blk_lt hF.out.1); refine hK.out _ _ (sF hFa.out) (fun hHeld => ?_); clear hK K; refine ny (h := ?_)
    refine oe 2 20 (bt 11 263) rfl rfl (fun K hK => ?_); refine goesV_ Tryz.func28 (by kernel_rfl) rfl #[.string ⟨#[98]⟩] (by rfl) rfl rfl (by rfl) (by (try simp only [List.map_toArray, List.map_cons, List.map_nil]); rfl) ?_; refine (w_any _ _).mono ?_; rintro e w5 ⟨rfl, hbw5⟩; have hFw5 := Aside0.mk (hFa.out.below hbw5); have hxw5 := blk_below hx hbw5; refine ⟨_, rfl, ?_⟩; refine hK.out _ _ (sF hFw5.out) (fun hHeld => ?_); clear hK K; refine ny (h := ?_)
    refine py 3 21 (bt 11 271) rfl rfl (h := ?_)
    refine oe 4 22 (bt 11 287) rfl rfl (fun K hK => ?_); refine goes_ Tryz.func12 (by kernel_rfl) rfl #[stV 0 (some ⟨q, 0, none⟩) 2 2 none 0 0, opV 1 (wk ⟨#[98]⟩) ndz ⟨#[]⟩ 0] (by rfl) rfl rfl (by (try simp only [List.map_toArray, List.map_cons, List.map_nil]); rfl) ?_; refine (hap.out _ (rowW_C hFw5.out.2.1) (rowN_C hFw5.out.2.2.1)).mono ?_; rintro e w6 ⟨A2, B2, rfl, hRA, hRB, hbw6⟩; have hFw6 := Aside0.mk (hFw5.out.below hbw6); have hCA := rowW_lower hRA (hFw5.out.2.2.2.size); have hCB := rowN_lower hRB (hFw5.out.2.2.2.size); have hxw6 := blk_below hxw5 hbw6; refine ⟨_, rfl, ?_⟩; refine hK.out _ _ (sF hFw6.out) (fun hHeld => ?_); clear hK K; refine ny (h := ?_)
    refine py 5 17 (bt 11 319) rfl rfl (h := ?_)
    refine py 6 23 (bt 11 383) rfl rfl (h := ?_)
    refine py 7 24 (bt 11 511) rfl rfl (h := ?_)
    exact na (hJ (_, A2, B2) _ ⟨hxg, hxo, hxw6, hFw6.out, hCA, hCB⟩)
   refine goesV_ Tryz.func28 (by kernel_rfl) rfl #[.string ⟨#[98]⟩] (by rfl) rfl rfl (by rfl) (by (try simp only [List.map_toArray, List.map_cons, List.map_nil]); rfl) ?_; refine (w_any _ _).mono ?_; rintro e w5 ⟨rfl, hbw5⟩; have hFw5 := Aside0.mk (hF.out.below hbw5); refine ⟨_, rfl, ?_⟩; refine hK.out _ _ (sF hFw5.out) (fun hHeld => ?_); clear hK K; refine ny (h := ?_)
   refine py 3 21 (bt 11 15) rfl rfl (h := ?_)
   refine two_ (i := 4) (j := 8) (Ni := some 22) (Nj := some 3) (bt 11 31) (bt 11 271) rfl rfl rfl rfl (by kernel_rfl) (by decide) (by decide) (fun K hK => ?_) (fun K hK => ?_)
   rotate_left
   ·refine puts_ (some 3) (by rfl) rfl (v := .pointer (some ⟨w5.heap.size, 0, none⟩)) (w1 := w5.alloc stZ) (by first | (go_simp; done) | (go_simp; rfl)) ?_; have hFa := Aside0.mk (hFw5.out.below (below_alloc (Below.refl _ _) stZ)); have hx := blk_new w5 stZ; have hxg := hFw5.out.2.2.2.size; have hxo := Nat.ne_of_lt (blk_lt hFw5.out.1); refine hK.out _ _ (sF hFa.out) (fun hHeld => ?_); clear hK K; refine ny (h := ?_)
    refine oe 4 22 (bt 11 287) rfl rfl (fun K hK => ?_); refine goes_ Tryz.func12 (by kernel_rfl) rfl #[stV 0 (some ⟨q, 0, none⟩) 2 2 none 0 0, opV 1 (wk ⟨#[98]⟩) ndz ⟨#[]⟩ 0] (by rfl) rfl rfl (by (try simp only [List.map_toArray, List.map_cons, List.map_nil]); rfl) ?_; refine (hap.out _ (rowW_C hFa.out.2.1) (rowN_C hFa.out.2.2.1)).mono ?_; rintro e w6 ⟨A2, B2, rfl, hRA, hRB, hbw6⟩; have hFw6 := Aside0.mk (hFa.out.below hbw6); have hCA := rowW_lower hRA (hFa.out.2.2.2.size); have hCB := rowN_lower hRB (hFa.out.2.2.2.size); have hxw6 := blk_below hx hbw6; refine ⟨_, rfl, ?_⟩; refine hK.out _ _ (sF hFw6.out) (fun hHeld => ?_); clear hK K; refine ny (h := ?_)
    refine py 5 17 (bt 11 319) rfl rfl (h := ?_)
    refine py 6 23 (bt 11 383) rfl rfl (h := ?_)
    refine py 7 24 (bt 11 511) rfl rfl (h := ?_)
    exact na (hJ (_, A2, B2) _ ⟨hxg, hxo, hxw6, hFw6.out, hCA, hCB⟩)
   refine goes_ Tryz.func12 (by kernel_rfl) rfl #[stV 0 (some ⟨q, 0, none⟩) 2 2 none 0 0, opV 1 (wk ⟨#[98]⟩) ndz ⟨#[]⟩ 0] (by rfl) rfl rfl (by (try simp only [List.map_toArray, List.map_cons, List.map_nil]); rfl) ?_; refine (hap.out _ (rowW_C hFw5.out.2.1) (rowN_C hFw5.out.2.2.1)).mono ?_; rintro e w6 ⟨A2, B2, rfl, hRA, hRB, hbw6⟩; have hFw6 := Aside0.mk (hFw5.out.below hbw6); have hCA := rowW_lower hRA (hFw5.out.2.2.2.size); have hCB := rowN_lower hRB (hFw5.out.2.2.2.size); refine ⟨_, rfl, ?_⟩; refine hK.out _ _ (sF hFw6.out) (fun hHeld => ?_); clear hK K; refine ny (h := ?_)
   refine py 5 17 (bt 11 63) rfl rfl (h := ?_)
   refine py 6 23 (bt 11 127) rfl rfl (h := ?_)
   refine py 7 24 (bt 11 255) rfl rfl (h := ?_)
   refine oe 8 3 (bt 11 511) rfl rfl (fun K hK => ?_); refine puts_ (some 3) (by rfl) rfl (v := .pointer (some ⟨w6.heap.size, 0, none⟩)) (w1 := w6.alloc stZ) (by first | (go_simp; done) | (go_simp; rfl)) ?_; have hFa := Aside0.mk (hFw6.out.below (below_alloc (Below.refl _ _) stZ)); have hx := blk_new w6 stZ; have hxg := hFw6.out.2.2.2.size; have hxo := Nat.ne_of_lt (blk_lt hFw6.out.1); have hCAa := rowW_below hCA (below_alloc (Below.refl _ _) stZ); have hCBa := rowN_below hCB (below_alloc (Below.refl _ _) stZ); refine hK.out _ _ (sF hFa.out) (fun hHeld => ?_); clear hK K; refine ny (h := ?_)
   exact na (hJ (_, A2, B2) _ ⟨hxg, hxo, hx, hFa.out, hCAa, hCBa⟩)
  clear hF hHeld
  rintro ⟨x, A2, B2⟩ w6 ⟨hxg, hxo, hX, hF, hCA, hCB⟩
  replace hF := Aside0.mk hF
  refine na ?_
  refine last_ (i := 9) (N := none) (bt 11 1023) rfl rfl (by kernel_rfl) (by decide) (fun K hK => ?_)
  have x0 := (blk_cell hX 0).trans rfl
  have y0 := blk_frozen hX 0
  have x1 := (blk_cell hX 1).trans rfl
  have y1 := blk_frozen hX 1
  have x2 := (blk_cell hX 2).trans rfl
  have y2 := blk_frozen hX 2
  refine sk ?_
  refine hK.out _ _ ?_
  clear hK K
  refine py 10 4 (bt 11 2047) rfl rfl (h := ?_)
  refine done_ (by kernel_rfl) ?_
  go_wp2_with fail
  go_meet
  rw [hR.out] at hCA hCB
  refine ⟨x, A2, B2, rfl, by rw [hR.out], hxg, Aside0.mk ⟨hF.out.far hxo hxg hX _ _ _, ?_, rowW_set hCA hX _ _ _, rowN_set hCB hX _ _ _, ((hF.out.2.2.2.setCell (p := ⟨x, 0, none⟩) hxg _).setCell (p := ⟨x, 1, none⟩) hxg _).setCell (p := ⟨x, 2, none⟩) hxg _⟩⟩
  rw [hR.out]
  exact (put3 _ _ _ hX).1
 case rest =>
  clear hF hap hR
  obtain ⟨p, A3, B3, rfl, rfl, hpg, hF⟩ := hcut
  have hap0 := fun W (hA : Kd.C k32 W (some ⟨q, 0, none⟩) 2 lac) (hN : Kd.C k34 W none 0 []) => apply_any 0 (some ⟨q, 0, none⟩) none 2 0 lac [] 2 wkz ndz ⟨#[100]⟩ 0 W hA (by decide) hN (by decide) small_ac (by decide) (by decide) oD (Lib.hid (.inr ⟨rfl, oN⟩))
  generalize hR' : applyS 0 lac [] 2 wkz ndz ⟨#[100]⟩ 0 = R' at hap0
  have hap := Lib.hid hap0
  have hR := Lib.hid (hR'.symm.trans ap_d)
  clear hap0 hR'
  obtain ⟨x0, x1, x2, y0, y1, y2⟩ := sF2 hF.out
  go_wp2_with (first | (go_at_call 12; refine (hap.out _ (rowW_C hF.out.1.2.1) (rowN_C hF.out.1.2.2.1)).mono ?_; rintro e w4 ⟨A4, B4, rfl, hRA, hRB, hb4⟩; have hF4 := Aside0.mk (hF.out.below hb4)))
  have e6 : R'.2.2.2 = 122 := by rw [hR.out]
  rw [e6]
  replace hF := Aside0.mk (hF4.out.below (below_alloc (Below.refl _ _) (stC R'.1 A4 R'.2.1.length R'.2.1.length B4 R'.2.2.1.length R'.2.2.1.length)))
  clear x0 x1 x2 y0 y1 y2 hF4 hRA hRB hb4 hap hR e6
  revert hF
  generalize w4.alloc (stC R'.1 A4 R'.2.1.length R'.2.1.length B4 R'.2.2.1.length R'.2.2.1.length) = wb
  intro hF
  generalize R'.1 = r0, R'.2.1.length = r1, R'.2.2.1.length = r2, w4.heap.size = r3
  have hap0 := fun W (hA : Kd.C k32 W (some ⟨q, 0, none⟩) 2 lac) (hN : Kd.C k34 W none 0 []) => apply_any 0 (some ⟨q, 0, none⟩) none 2 0 lac [] 1 (wk ⟨#[97]⟩) ndz ⟨#[]⟩ 0 W hA (by decide) hN (by decide) small_ac (by decide) (by decide) oA (Lib.hid (.inl rfl))
  generalize hR' : applyS 0 lac [] 1 (wk ⟨#[97]⟩) ndz ⟨#[]⟩ 0 = R at hap0
  have hap := Lib.hid hap0
  have hR := Lib.hid (hR'.symm.trans ap_a)
  clear hap0 hR'
  go_cut [7, 8] (fun s7 s8 wx => s8 = .int .i64 121 ∧ Aside0 (F2 w wx g p (some ⟨q, 0, none⟩) A3 B3))
  case first =>
   refine start_ (n := 11) (S := fun w' => w'.cell? ⟨g, 0, none⟩ = some (.int .i64 0) ∧ w'.cell? ⟨g, 1, none⟩ = some (.slice (some ⟨q, 0, none⟩) 2 2) ∧ w'.cell? ⟨g, 2, none⟩ = some (.slice none 0 0) ∧ w'.cell? ⟨p, 0, none⟩ = some (.int .i64 0) ∧ w'.cell? ⟨p, 1, none⟩ = some (.slice A3 3 3) ∧ w'.cell? ⟨p, 2, none⟩ = some (.slice B3 0 0)) (ds := [9]) (bt 11 0) (by kernel_rfl) rfl (by kernel_rfl) (sF2 (w' := wb) hF.out) (fun hHeld => ?_)
   replace hF := Aside0.mk (hF.out.below (below_drew (Below.refl _ _)))
   generalize wb.drew = wd at *
   refine ty 0 32 (bt 11 1) rfl rfl hHeld (h := ?_)
   refine py 1 33 (bt 11 3) rfl rfl (h := ?_)
   refine join_ (σ := Nat × Option Addr × Option Addr) 2 (bt 11 511) (fun s_ => [(34, .agg #[.string ⟨#[97]⟩, .int .i64 0, .int .i64 0, .int .i64 1, .int .i64 1, .string ⟨#[]⟩]), (35, opV 1 (wk ⟨#[97]⟩) ndz ⟨#[]⟩ 0), (36, .tuple #[stV R.1 s_.2.1 R.2.1.length R.2.1.length s_.2.2 R.2.2.1.length R.2.2.1.length, .int .i64 R.2.2.2]), (31, .tuple #[stV R.1 s_.2.1 R.2.1.length R.2.1.length s_.2.2 R.2.2.1.length R.2.2.1.length, .int .i64 R.2.2.2]), (37, stV R.1 s_.2.1 R.2.1.length R.2.1.length s_.2.2 R.2.2.1.length R.2.2.1.length), (38, .int .i64 R.2.2.2), (7, .pointer (some ⟨s_.1, 0, none⟩))]) (fun s_ w' => w.heap.size ≤ s_.1 ∧ g ≠ s_.1 ∧ p ≠ s_.1 ∧ w'.heap[s_.1]? = some (.cells #[.int .i64 0, .slice none 0 0, .slice none 0 0] 27 (0, 0)) ∧ F2 w w' g p (some ⟨q, 0, none⟩) A3 B3 ∧ RoW w w' s_.2.1 R.2.1 ∧ RoN w w' s_.2.2 R.2.2.1) ?_ (fun hJ => ?_)
   rotate_left
   ·refine two_ (i := 2) (j := 8) (Ni := some 34) (Nj := some 7) (bt 11 7) (bt 11 259) rfl rfl rfl rfl (by kernel_rfl) (by decide) (by decide) (fun K hK => ?_) (fun K hK => ?_)
    rotate_left
    ·refine puts_ (some 7) (by rfl) rfl (v := .pointer (some ⟨wd.heap.size, 0, none⟩)) (w1 := wd.alloc stZ) (by first | (go_simp; done) | (go_simp; rfl)) ?_; have hFa := Aside0.mk (hF.out.below (below_alloc (Below.refl _ _) stZ)); have hx := blk_new wd stZ; have hxg := hF.out.1.2.2.2.size; have hxo := Nat.ne_of_lt (blk_lt hF.out.1.1); have hxp := Nat.ne_of_lt (blk_lt hF.out.2.1); refine hK.out _ _ (sF2 hFa.out) (fun hHeld => ?_); clear hK K; refine ny (h := ?_)
     refine oe 2 34 (bt 11 263) rfl rfl (fun K hK => ?_); refine goesV_ Tryz.func28 (by kernel_rfl) rfl #[.string ⟨#[97]⟩] (by rfl) rfl rfl (by rfl) (by (try simp only [List.map_toArray, List.map_cons, List.map_nil]); rfl) ?_; refine (w_any _ _).mono ?_; rintro e w5 ⟨rfl, hbw5⟩; have hFw5 := Aside0.mk (hFa.out.below hbw5); have hxw5 := blk_below hx hbw5; refine ⟨_, rfl, ?_⟩; refine hK.out _ _ (sF2 hFw5.out) (fun hHeld => ?_); clear hK K; refine ny (h := ?_)
     refine py 3 35 (bt 11 271) rfl rfl (h := ?_)
     refine oe 4 36 (bt 11 287) rfl rfl (fun K hK => ?_); refine goes_ Tryz.func12 (by kernel_rfl) rfl #[stV 0 (some ⟨q, 0, none⟩) 2 2 none 0 0, opV 1 (wk ⟨#[97]⟩) ndz ⟨#[]⟩ 0] (by rfl) rfl rfl (by (try simp only [List.map_toArray, List.map_cons, List.map_nil]); rfl) ?_; refine (hap.out _ (rowW_C hFw5.out.1.2.1) (rowN_C hFw5.out.1.2.2.1)).mono ?_; rintro e w6 ⟨A2, B2, rfl, hRA, hRB, hbw6⟩; have hFw6 := Aside0.mk (hFw5.out.below hbw6); have hCA := rowW_lower hRA (hFw5.out.1.2.2.2.size); have hCB := rowN_lower hRB (hFw5.out.1.2.2.2.size); have hxw6 := blk_below hxw5 hbw6; refine ⟨_, rfl, ?_⟩; refine hK.out _ _ (sF2 hFw6.out) (fun hHeld => ?_); clear hK K; refine ny (h := ?_)
     refine py 5 31 (bt 11 319) rfl rfl (h := ?_)
     refine py 6 37 (bt 11 383) rfl rfl (h := ?_)
     refine py 7 38 (bt 11 511) rfl rfl (h := ?_)
     exact na (hJ (_, A2, B2) _ ⟨hxg, hxo, hxp, hxw6, hFw6.out, hCA, hCB⟩)
    refine goesV_ Tryz.func28 (by kernel_rfl) rfl #[.string ⟨#[97]⟩] (by rfl) rfl rfl (by rfl) (by (try simp only [List.map_toArray, List.map_cons, List.map_nil]); rfl) ?_; refine (w_any _ _).mono ?_; rintro e w5 ⟨rfl, hbw5⟩; have hFw5 := Aside0.mk (hF.out.below hbw5); refine ⟨_, rfl, ?_⟩; refine hK.out _ _ (sF2 hFw5.out) (fun hHeld => ?_); clear hK K; refine ny (h := ?_)
    refine py 3 35 (bt 11 15) rfl rfl (h := ?_)
    refine two_ (i := 4) (j := 8) (Ni := some 36) (Nj := some 7) (bt 11 31) (bt 11 271) rfl rfl rfl rfl (by kernel_rfl) (by decide) (by decide) (fun K hK => ?_) (fun K hK => ?_)
    rotate_left
    ·refine puts_ (some 7) (by rfl) rfl (v := .pointer (some ⟨w5.heap.size, 0, none⟩)) (w1 := w5.alloc stZ) (by first | (go_simp; done) | (go_simp; rfl)) ?_; have hFa := Aside0.mk (hFw5.out.below (below_alloc (Below.refl _ _) stZ)); have hx := blk_new w5 stZ; have hxg := hFw5.out.1.2.2.2.size; have hxo := Nat.ne_of_lt (blk_lt hFw5.out.1.1); have hxp := Nat.ne_of_lt (blk_lt hFw5.out.2.1); refine hK.out _ _ (sF2 hFa.out) (fun hHeld => ?_); clear hK K; refine ny (h := ?_)
     refine oe 4 36 (bt 11 287) rfl rfl (fun K hK => ?_); refine goes_ Tryz.func12 (by kernel_rfl) rfl #[stV 0 (some ⟨q, 0, none⟩) 2 2 none 0 0, opV 1 (wk ⟨#[97]⟩) ndz ⟨#[]⟩ 0] (by rfl) rfl rfl (by (try simp only [List.map_toArray, List.map_cons, List.map_nil]); rfl) ?_; refine (hap.out _ (rowW_C hFa.out.1.2.1) (rowN_C hFa.out.1.2.2.1)).mono ?_; rintro e w6 ⟨A2, B2, rfl, hRA, hRB, hbw6⟩; have hFw6 := Aside0.mk (hFa.out.below hbw6); have hCA := rowW_lower hRA (hFa.out.1.2.2.2.size); have hCB := rowN_lower hRB (hFa.out.1.2.2.2.size); have hxw6 := blk_below hx hbw6; refine ⟨_, rfl, ?_⟩; refine hK.out _ _ (sF2 hFw6.out) (fun hHeld => ?_); clear hK K; refine ny (h := ?_)
     refine py 5 31 (bt 11 319) rfl rfl (h := ?_)
     refine py 6 37 (bt 11 383) rfl rfl (h := ?_)
     refine py 7 38 (bt 11 511) rfl rfl (h := ?_)
     exact na (hJ (_, A2, B2) _ ⟨hxg, hxo, hxp, hxw6, hFw6.out, hCA, hCB⟩)
    refine goes_ Tryz.func12 (by kernel_rfl) rfl #[stV 0 (some ⟨q, 0, none⟩) 2 2 none 0 0, opV 1 (wk ⟨#[97]⟩) ndz ⟨#[]⟩ 0] (by rfl) rfl rfl (by (try simp only [List.map_toArray, List.map_cons, List.map_nil]); rfl) ?_; refine (hap.out _ (rowW_C hFw5.out.1.2.1) (rowN_C hFw5.out.1.2.2.1)).mono ?_; rintro e w6 ⟨A2, B2, rfl, hRA, hRB, hbw6⟩; have hFw6 := Aside0.mk (hFw5.out.below hbw6); have hCA := rowW_lower hRA (hFw5.out.1.2.2.2.size); have hCB := rowN_lower hRB (hFw5.out.1.2.2.2.size); refine ⟨_, rfl, ?_⟩; refine hK.out _ _ (sF2 hFw6.out) (fun hHeld => ?_); clear hK K; refine ny (h := ?_)
    refine py 5 31 (bt 11 63) rfl rfl (h := ?_)
    refine py 6 37 (bt 11 127) rfl rfl (h := ?_)
    refine py 7 38 (bt 11 255) rfl rfl (h := ?_)
    refine oe 8 7 (bt 11 511) rfl rfl (fun K hK => ?_); refine puts_ (some 7) (by rfl) rfl (v := .pointer (some ⟨w6.heap.size, 0, none⟩)) (w1 := w6.alloc stZ) (by first | (go_simp; done) | (go_simp; rfl)) ?_; have hFa := Aside0.mk (hFw6.out.below (below_alloc (Below.refl _ _) stZ)); have hx := blk_new w6 stZ; have hxg := hFw6.out.1.2.2.2.size; have hxo := Nat.ne_of_lt (blk_lt hFw6.out.1.1); have hxp := Nat.ne_of_lt (blk_lt hFw6.out.2.1); have hCAa := rowW_below hCA (below_alloc (Below.refl _ _) stZ); have hCBa := rowN_below hCB (below_alloc (Below.refl _ _) stZ); refine hK.out _ _ (sF2 hFa.out) (fun hHeld => ?_); clear hK K; refine ny (h := ?_)
    exact na (hJ (_, A2, B2) _ ⟨hxg, hxo, hxp, hx, hFa.out, hCAa, hCBa⟩)
   clear hF hHeld
   rintro ⟨x, A2, B2⟩ w6 ⟨hxg, hxo, hxp, hX, hF, hCA, hCB⟩
   replace hF := Aside0.mk hF
   refine na ?_
   refine last_ (i := 9) (N := none) (bt 11 1023) rfl rfl (by kernel_rfl) (by decide) (fun K hK => ?_)
   have x0 := (blk_cell hX 0).trans rfl
   have y0 := blk_frozen hX 0
   have x1 := (blk_cell hX 1).trans rfl
   have y1 := blk_frozen hX 1
   have x2 := (blk_cell hX 2).trans rfl
   have y2 := blk_frozen hX 2
   refine sk ?_
   refine hK.out _ _ ?_
   clear hK K
   refine py 10 8 (bt 11 2047) rfl rfl (h := ?_)
   refine done_ (by kernel_rfl) ?_
   go_wp2_with fail
   go_meet
   exact ⟨by rw [hR.out], Aside0.mk (hF.out.far hxo hxp hxg hX _ _ _)⟩
  case rest =>
   clear hF hap hR
   obtain ⟨rfl, hF⟩ := hcut
   go_wp2_with (first | (go_at_call 19; refine (putn_any _).mono ?_; rintro e w6 ⟨rfl, hb6⟩; replace hF := Aside0.mk (hF.out.below hb6); clear hb6))
   refine start_ (n := 35) (S := fun w' => w'.cell? ⟨g, 0, none⟩ = some (.int .i64 0) ∧ w'.cell? ⟨g, 1, none⟩ = some (.slice (some ⟨q, 0, none⟩) 2 2) ∧ w'.cell? ⟨g, 2, none⟩ = some (.slice none 0 0) ∧ w'.cell? ⟨p, 0, none⟩ = some (.int .i64 0) ∧ w'.cell? ⟨p, 1, none⟩ = some (.slice A3 3 3) ∧ w'.cell? ⟨p, 2, none⟩ = some (.slice B3 0 0)) (ds := []) (bt 35 0) (by kernel_rfl) rfl (by kernel_rfl) (sF2 (w' := w6) hF.out) (fun hHeld => ?_)
   replace hF := Aside0.mk (hF.out.below (below_drew (Below.refl _ _)))
   generalize w6.drew = wd at *
   refine ty 0 44 (bt 35 1) rfl rfl hHeld (h := ?_)
   refine oe 1 45 (bt 35 3) rfl rfl (fun K hK => ?_); refine goes_ Tryz.func14 (by kernel_rfl) rfl #[stV 0 (some ⟨q, 0, none⟩) 2 2 none 0 0] (by rfl) rfl rfl (by (try simp only [List.map_toArray, List.map_cons, List.map_nil]); rfl) ?_; refine (Ri.right_any 0 (some ⟨q, 0, none⟩) none 2 0 lac [] _ (rowW_C hF.out.1.2.1) (by decide) (rowN_C hF.out.1.2.2.1) (by decide) small_ac).mono ?_; rintro e w7 ⟨rfl, hbw7⟩; rw [right_ac]; have hFw7 := Aside0.mk (hF.out.below hbw7); refine ⟨_, rfl, ?_⟩; refine hK.out _ _ (sF2 hFw7.out) (fun hHeld => ?_); clear hK K; refine ny (h := ?_)
   refine py 2 46 (bt 35 7) rfl rfl (h := ?_)
   refine ty 3 47 (bt 35 15) rfl rfl hHeld (h := ?_)
   refine py 4 48 (bt 35 31) rfl rfl (h := ?_)
   refine py 6 50 (bt 35 95) rfl rfl (h := ?_)
   refine py 8 52 (bt 35 351) rfl rfl (h := ?_)
   refine oe 5 49 (bt 35 383) rfl rfl (fun K hK => ?_); refine goesV_ Tryz.func28 (by kernel_rfl) rfl #[.string ⟨#[97]⟩] (by rfl) rfl rfl (by rfl) (by (try simp only [List.map_toArray, List.map_cons, List.map_nil]); rfl) ?_; refine (w_any _ _).mono ?_; rintro e w8 ⟨rfl, hbw8⟩; have hFw8 := Aside0.mk (hFw7.out.below hbw8); refine ⟨_, rfl, ?_⟩; refine hK.out _ _ (sF2 hFw8.out) (fun hHeld => ?_); clear hK K; refine ny (h := ?_)
   refine oe 7 51 (bt 35 511) rfl rfl (fun K hK => ?_); refine goesV_ Tryz.func28 (by kernel_rfl) rfl #[.string ⟨#[98]⟩] (by rfl) rfl rfl (by rfl) (by (try simp only [List.map_toArray, List.map_cons, List.map_nil]); rfl) ?_; refine (w_any _ _).mono ?_; rintro e w9 ⟨rfl, hbw9⟩; have hFw9 := Aside0.mk (hFw8.out.below hbw9); refine ⟨_, rfl, ?_⟩; refine hK.out _ _ (sF2 hFw9.out) (fun hHeld => ?_); clear hK K; refine ny (h := ?_)
   refine oe 9 53 (bt 35 1023) rfl rfl (fun K hK => ?_); refine goesV_ Tryz.func28 (by kernel_rfl) rfl #[.string ⟨#[99]⟩] (by rfl) rfl rfl (by rfl) (by (try simp only [List.map_toArray, List.map_cons, List.map_nil]); rfl) ?_; refine (w_any _ _).mono ?_; rintro e w10 ⟨rfl, hbw10⟩; have hFw10 := Aside0.mk (hFw9.out.below hbw10); refine ⟨_, rfl, ?_⟩; refine hK.out _ _ (sF2 hFw10.out) (fun hHeld => ?_); clear hK K; refine ny (h := ?_)
   refine oe 10 54 (bt 35 2047) rfl rfl (fun K hK => ?_); refine puts_ (some 54) (by rfl) rfl (v := .slice (some ⟨w10.heap.size, 0, none⟩) 3 3) (w1 := w10.alloc rowD) (by first | (go_simp; done) | (go_simp; rfl)) ?_; have hFr := Aside0.mk (hFw10.out.below (below_alloc (Below.refl _ _) rowD)); have hRr := row_R (w := w10.alloc rowD) labc (blk_new w10 rowD) (Nat.zero_le _) (by decide); generalize w10.alloc rowD = wr at *; generalize w10.heap.size = qr at *; refine hK.out _ _ (sF2 hFr.out) (fun hHeld => ?_); clear hK K; refine ny (h := ?_)
   refine py 11 55 (bt 35 4095) rfl rfl (h := ?_)
   refine oe 12 56 (bt 35 8191) rfl rfl (fun K hK => ?_); refine goes_ Tryz.func16 (by kernel_rfl) rfl #[stV 0 A3 3 3 B3 0 0, stV 0 (some ⟨qr, 0, none⟩) 3 3 none 0 0] (by rfl) rfl rfl (by (try simp only [List.map_toArray, List.map_cons, List.map_nil]); rfl) ?_; refine (Sy.same_yes 0 A3 B3 (some ⟨qr, 0, none⟩) none 3 0 3 0 labc [] _ (rowW_C hFr.out.2.2.1) (rowN_C hFr.out.2.2.2.1) (Kd.R_reads' hRr).2.2 (rowN_C (w0 := w) ⟨0, Kd.R_nil _ _ _ _ _⟩) (by decide) (by decide)).mono ?_; rintro e w12 ⟨rfl, hbw12⟩; have hFw12 := Aside0.mk (hFr.out.below hbw12); refine ⟨_, rfl, ?_⟩; refine hK.out _ _ (sF2 hFw12.out) (fun hHeld => ?_); clear hK K; refine ny (h := ?_)
   refine py 13 57 (bt 35 16383) rfl rfl (h := ?_)
   refine py 14 58 (bt 35 32767) rfl rfl (h := ?_)
   refine py 15 59 (bt 35 65535) rfl rfl (h := ?_)
   refine py 16 60 (bt 35 131071) rfl rfl (h := ?_)
   refine py 17 61 (bt 35 262143) rfl rfl (h := ?_)
   refine py 18 62 (bt 35 524287) rfl rfl (h := ?_)
   refine py 19 63 (bt 35 1048575) rfl rfl (h := ?_)
   refine py 20 64 (bt 35 2097151) rfl rfl (h := ?_)
   refine py 21 65 (bt 35 4194303) rfl rfl (h := ?_)
   refine py 22 66 (bt 35 8388607) rfl rfl (h := ?_)
   refine py 23 67 (bt 35 16777215) rfl rfl (h := ?_)
   refine py 24 68 (bt 35 33554431) rfl rfl (h := ?_)
   refine py 25 69 (bt 35 67108863) rfl rfl (h := ?_)
   refine py 26 70 (bt 35 134217727) rfl rfl (h := ?_)
   refine py 27 71 (bt 35 268435455) rfl rfl (h := ?_)
   refine py 28 72 (bt 35 536870911) rfl rfl (h := ?_)
   refine py 29 73 (bt 35 1073741823) rfl rfl (h := ?_)
   refine py 30 74 (bt 35 2147483647) rfl rfl (h := ?_)
   refine py 31 75 (bt 35 4294967295) rfl rfl (h := ?_)
   refine py 32 76 (bt 35 8589934591) rfl rfl (h := ?_)
   refine py 33 77 (bt 35 17179869183) rfl rfl (h := ?_)
   refine py 34 0 (bt 35 34359738367) rfl rfl (h := ?_)
   refine done_ (by kernel_rfl) ?_
   go_wp2_with fail
   go_ret
   exact ⟨rfl, hFw12.out.1.2.2.2⟩
end Go.Proofs.YtldlkbjbfgieeaaGreatDoor.Aw
