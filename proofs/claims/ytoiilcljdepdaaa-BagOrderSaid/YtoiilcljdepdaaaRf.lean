/- The document's bag: its operations. -/
import Derived.Test.YtoiilcljdepdaaaOp
namespace Go.Proofs.Ytoiilcljdepdaaa.Bg
set_option linter.unusedVariables false
set_option linter.unusedSimpArgs false
open Go.RowKit Go.Proofs.YtoiilcljdepdaaaW.PrintWords Go.Proofs.YtoiilcljdepdaaaW.PrintLast Go.Proofs.YtoiilcljdepdaaaW.PrintMore Go.Proofs.Ytoiilcljdepdaaa.PBagPlays
attribute [local go_sem] max2_int min2_int max_two min_two max_three min_three max_four min_four
theorem rTake_no (g : Nat) (v : Value) (xs : List ByteArray) (i : Int) (w0 w : World) (h : Bg 45 w0 w g v xs) (hB : Below w0.heap.size w0 w) (hi : i < 0 ∨ (xs.length : Int) ≤ i) :
    Calls Try.prog 14 #[.pointer (some ⟨g, 0, none⟩), .int .i64 i] w fun e w' => e = .returned (.tuple #[.string ⟨#[]⟩, .bool false]) ∧ Does 45 w0 w w' g v xs := by
  go_enter Try.func14, Try.ntmps14
  go_wp2_with (go_at_call 20; refine (rLook_no _ v xs i w0 _ h hi).mono ?_; rintro e w2 ⟨rfl, HB⟩)
  go_ret2
  all_goals exact ⟨rfl, Does.same h hB (by first | exact HB | exact HB.drew)⟩
theorem take_done {t : Nat} {w0 w w2 w3 w4 : World} {g i : Nat} {v v1 : Value} {A2 : Option Addr} {n c2 : Nat} {xs ys : List ByteArray} {u : Value} (hg : w0.heap.size ≤ g) (hlt : g < w2.heap.size) (hn : n = ys.length) (HB : Below w.heap.size w w2) (hg3 : w2.grownBy w3 none) (hg4 : w3.grownBy w4 v1.ownBlock)
    (hb4 : Below w0.heap.size w0 w4) (hbk4 : w4.heap[g]? = some (.cells #[u] t (0, 0))) (ho4 : Kd.string.R 9 w4 w0.heap.size (fun k => k ≠ g) (.slice A2 ys.length c2) ys)
    (hat3 : v1.ownBlock = none ∨ ∃ b, v1.ownBlock = some b ∧ w2.heap.size ≤ b) (hat4 : (Value.slice A2 ys.length c2).ownBlock = v1.ownBlock ∨ ∃ b, (Value.slice A2 ys.length c2).ownBlock = some b ∧ w3.heap.size ≤ b) (hys : ys = xs.eraseIdx i) :
    Does t w0 w (w4.setCell ⟨g, 0, none⟩ (.slice A2 n c2)) g v (xs.eraseIdx i) := by
  subst hn hys
  have s3 := hg3.size
  have s4 := hg4.size
  have s2 := HB.size
  refine ⟨⟨.slice A2 _ c2, ⟨blk_put hbk4 0 _ rfl, hg, Kd.R_far ho4 (p := ⟨g, 0, none⟩) (fun k hk => hk) _⟩, fun b hb => .inr ?_⟩, hb4.setCell (p := ⟨g, 0, none⟩) hg _, ?_, fun k hk hkg hkv => ?_⟩
  · rcases hat4 with e | ⟨b', e, hb'⟩
    · rcases hat3 with e3 | ⟨b', e3, hb'⟩
      · rw [e, e3] at hb; cases hb
      · rw [e, e3] at hb; injection hb with hb; omega
    · rw [e] at hb; injection hb with hb; omega
  · simp [World.setCell]; omega
  · refine (Below.heap_setCell w4 ⟨g, 0, none⟩ _ k hkg).trans ((hg4.block k (by omega) ?_).trans ((hg3.block k (by omega) (by simp)).trans (HB.block k hk)))
    intro e
    rcases hat3 with e3 | ⟨b', e3, hb'⟩
    · rw [e3] at e; cases e
    · rw [e3] at e; injection e with e; omega
set_option maxHeartbeats 4000000 in
theorem rTake_yes (g : Nat) (v : Value) (xs : List ByteArray) (i : Nat) (x : ByteArray) (w0 w : World) (h : Bg 45 w0 w g v xs) (hB : Below w0.heap.size w0 w) (hx : xs[i]? = some x) (hl : xs.length ≤ 64) :
    Calls Try.prog 14 #[.pointer (some ⟨g, 0, none⟩), .int .i64 i] w fun e w' => e = .returned (.tuple #[.string x, .bool true]) ∧ Does 45 w0 w w' g v (xs.eraseIdx i) := by
  have hi : i < xs.length := by rw [List.getElem?_eq_some_iff] at hx; exact hx.1
  obtain ⟨b, c, rfl, _, _, _⟩ := Kd.R_form h.2.2 (by omega)
  have hcl := (Kd.R_reads' h.2.2).2.1
  have n0 : (0 : Int) ≤ (i : Int) := by omega
  have n1 : (i : Int) ≤ (c : Int) := by omega
  have n2 : (0 : Int) ≤ (i : Int) + 1 := by omega
  have n3 : (i : Int) + 1 ≤ (xs.length : Int) := by omega
  have e1 : (i : Int).toNat = i := Int.toNat_natCast i
  have e2 : ((i : Int) + 1).toNat = i + 1 := by omega
  have hwr : IntKind.i64.wrap ((i : Int) + 1) = (i : Int) + 1 := IntWalk.i64_in _ (by omega)
  have hbs := hB.size
  have hdk : (xs.drop (i + 1)).length = xs.length - (i + 1) := by simp
  have htk : (xs.take i).length = i := by simp; omega
  have hadd : Option.map (fun x : Addr => x.add ((i + 1) * Kd.string.sz)) (some (⟨b, 0, none⟩ : Addr)) = some ⟨b, i + 1, none⟩ := by
    have hz : Kd.string.sz = 1 := rfl
    rw [hz]; simp [Addr.add]
  by_cases hci : c = i + 1
  · go_enter Try.func14, Try.ntmps14
    go_wp2_with (first | (go_at_call 20; refine (rLook_yes _ _ xs i x w0 _ h hx).mono ?_; rintro e w2 ⟨rfl, HB⟩; have h2 := Bg.below h HB; have hcg := (blk_cell h2.1 0).trans rfl; have hB2 := hB.trans (HB.mono hB.size); have hR2 := h2.2.2; have hC2 := (Kd.R_reads' hR2).2.2) | (at_builtin; refine Kd.R_append_rows Kd.string (w0 := w0) w0.heap.size rfl (.tmp 16) (.tmp 22) 37 9 (.string ⟨#[]⟩) 16 rfl Try.underlying37 (by kernel_rfl) rfl (by decide) (by omega) (.slice none 0 0) [] (xs.take i) _ _ _ (fun k => k ≠ g) (fun _ => False) rfl rfl (Kd.R_nil _ _ _ _ _) ?aR (fun _ _ h => h) (fun _ h => h.elim) ?aF ?aB ?aS ?aL ?_; (case aR => exact ((by have hCt := Kd.C_take (m := i) hC2 (by omega); rwa [htk] at hCt) : Kd.string.C w2 (some ⟨b, 0, none⟩) i (xs.take i))); (case aF => exact (fun k hk e => by have := blk_lt h2.1; omega)); (case aB => exact hB2); (case aS => exact hB2.size); (case aL => simp; omega); intro v1 w3 ho3 hb3 hg3 hat3; rw [List.nil_append] at ho3; have hR3 := Kd.R_grown hR2 hg3 (fun k hk => by simp [Value.ownBlock]); have hbk3 := blk_grown h2.1 hg3 (by simp [Value.ownBlock]); have hcg3 := (blk_cell hbk3 0).trans rfl; have hfg3 := blk_frozen hbk3 0; have hC3 := (Kd.R_reads' hR3).2.2; have hCd := Kd.C_drop (m := i + 1) hC3 (by omega) hcl; rw [hdk] at hCd; rw [if_pos hci] at hCd) | (at_builtin; refine Kd.R_append_rows Kd.string (w0 := w0) w0.heap.size rfl (.tmp 25) (.tmp 32) 37 9 (.string ⟨#[]⟩) 16 rfl Try.underlying37 (by kernel_rfl) rfl (by decide) (by omega) v1 (xs.take i) (xs.drop (i + 1)) _ _ _ (fun k => k ≠ g) (fun _ => False) rfl rfl ho3 ?bR (fun _ _ h => h) (fun _ h => h.elim) ?bF ?bB ?bS ?bL ?_; (case bR => exact hCd); (case bF => exact (fun k hk e => by have := blk_lt hbk3; omega)); (case bB => exact hb3); (case bS => exact hb3.size); (case bL => simp; omega); intro v2 w4 ho4 hb4 hg4 hat4; obtain ⟨A2, c2, rfl⟩ := Kd.R_slice ho4; have hna : some g ≠ v1.ownBlock := Kd.R_away ho3 (fun k hk => hk); have hbk4 := blk_grown hbk3 hg4 hna; have hcg4 := (blk_cell hbk4 0).trans rfl; have hfg4 := blk_frozen hbk4 0))
    go_ret2
    all_goals exact ⟨rfl, take_done h.2.1 (blk_lt h2.1) (by simp; omega) HB hg3 hg4 hb4 hbk4 ho4 hat3 hat4 (List.eraseIdx_eq_take_drop_succ _ _).symm⟩
  · go_enter Try.func14, Try.ntmps14
    go_wp2_with (first | (go_at_call 20; refine (rLook_yes _ _ xs i x w0 _ h hx).mono ?_; rintro e w2 ⟨rfl, HB⟩; have h2 := Bg.below h HB; have hcg := (blk_cell h2.1 0).trans rfl; have hB2 := hB.trans (HB.mono hB.size); have hR2 := h2.2.2; have hC2 := (Kd.R_reads' hR2).2.2) | (at_builtin; refine Kd.R_append_rows Kd.string (w0 := w0) w0.heap.size rfl (.tmp 16) (.tmp 22) 37 9 (.string ⟨#[]⟩) 16 rfl Try.underlying37 (by kernel_rfl) rfl (by decide) (by omega) (.slice none 0 0) [] (xs.take i) _ _ _ (fun k => k ≠ g) (fun _ => False) rfl rfl (Kd.R_nil _ _ _ _ _) ?aR (fun _ _ h => h) (fun _ h => h.elim) ?aF ?aB ?aS ?aL ?_; (case aR => exact ((by have hCt := Kd.C_take (m := i) hC2 (by omega); rwa [htk] at hCt) : Kd.string.C w2 (some ⟨b, 0, none⟩) i (xs.take i))); (case aF => exact (fun k hk e => by have := blk_lt h2.1; omega)); (case aB => exact hB2); (case aS => exact hB2.size); (case aL => simp; omega); intro v1 w3 ho3 hb3 hg3 hat3; rw [List.nil_append] at ho3; have hR3 := Kd.R_grown hR2 hg3 (fun k hk => by simp [Value.ownBlock]); have hbk3 := blk_grown h2.1 hg3 (by simp [Value.ownBlock]); have hcg3 := (blk_cell hbk3 0).trans rfl; have hfg3 := blk_frozen hbk3 0; have hC3 := (Kd.R_reads' hR3).2.2; have hCd := Kd.C_drop (m := i + 1) hC3 (by omega) hcl; rw [hdk] at hCd; rw [if_neg hci, hadd] at hCd) | (at_builtin; refine Kd.R_append_rows Kd.string (w0 := w0) w0.heap.size rfl (.tmp 25) (.tmp 32) 37 9 (.string ⟨#[]⟩) 16 rfl Try.underlying37 (by kernel_rfl) rfl (by decide) (by omega) v1 (xs.take i) (xs.drop (i + 1)) _ _ _ (fun k => k ≠ g) (fun _ => False) rfl rfl ho3 ?bR (fun _ _ h => h) (fun _ h => h.elim) ?bF ?bB ?bS ?bL ?_; (case bR => exact hCd); (case bF => exact (fun k hk e => by have := blk_lt hbk3; omega)); (case bB => exact hb3); (case bS => exact hb3.size); (case bL => simp; omega); intro v2 w4 ho4 hb4 hg4 hat4; obtain ⟨A2, c2, rfl⟩ := Kd.R_slice ho4; have hna : some g ≠ v1.ownBlock := Kd.R_away ho3 (fun k hk => hk); have hbk4 := blk_grown hbk3 hg4 hna; have hcg4 := (blk_cell hbk4 0).trans rfl; have hfg4 := blk_frozen hbk4 0))
    go_ret2
    all_goals exact ⟨rfl, take_done h.2.1 (blk_lt h2.1) (by simp; omega) HB hg3 hg4 hb4 hbk4 ho4 hat3 hat4 (List.eraseIdx_eq_take_drop_succ _ _).symm⟩
theorem rDrop_no (g : Nat) (v : Value) (xs : List ByteArray) (i : Int) (w0 w : World) (h : Bg 45 w0 w g v xs) (hB : Below w0.heap.size w0 w) (hi : i < 0 ∨ (xs.length : Int) ≤ i) :
    Calls Try.prog 18 #[.pointer (some ⟨g, 0, none⟩), .int .i64 i] w fun e w' => e = .returned (.bool false) ∧ Does 45 w0 w w' g v xs := by
  go_enter Try.func18, Try.ntmps18
  go_wp2_with (go_at_call 14; refine (rTake_no _ v xs i w0 _ h hB hi).mono ?_; rintro e w2 ⟨rfl, hd⟩)
  go_ret
  exact ⟨rfl, hd⟩
theorem rDrop_yes (g : Nat) (v : Value) (xs : List ByteArray) (i : Nat) (x : ByteArray) (w0 w : World) (h : Bg 45 w0 w g v xs) (hB : Below w0.heap.size w0 w) (hx : xs[i]? = some x) (hl : xs.length ≤ 64) :
    Calls Try.prog 18 #[.pointer (some ⟨g, 0, none⟩), .int .i64 i] w fun e w' => e = .returned (.bool true) ∧ Does 45 w0 w w' g v (xs.eraseIdx i) := by
  go_enter Try.func18, Try.ntmps18
  go_wp2_with (go_at_call 14; refine (rTake_yes _ v xs i x w0 _ h hB hx hl).mono ?_; rintro e w2 ⟨rfl, hd⟩)
  go_ret
  exact ⟨rfl, hd⟩
theorem rCopy_no (g : Nat) (v : Value) (xs : List ByteArray) (i : Int) (w0 w : World) (h : Bg 45 w0 w g v xs) (hB : Below w0.heap.size w0 w) (hi : i < 0 ∨ (xs.length : Int) ≤ i) :
    Calls Try.prog 16 #[.pointer (some ⟨g, 0, none⟩), .int .i64 i] w fun e w' => e = .returned (.bool false) ∧ Does 45 w0 w w' g v xs := by
  go_enter Try.func16, Try.ntmps16
  go_wp2_with (go_at_call 20; refine (rLook_no _ v xs i w0 _ h hi).mono ?_; rintro e w2 ⟨rfl, HB⟩)
  go_ret
  exact ⟨rfl, Does.same h hB HB⟩
/-- what is done behind new blocks is done -/
theorem Does.after {t : Nat} {w0 w w1 w2 : World} {g : Nat} {v : Value} {xs' : List ByteArray} (hB1 : Below w.heap.size w w1) (h : Does t w0 w1 w2 g v xs') : Does t w0 w w2 g v xs' := by
  obtain ⟨⟨v', hb, ho⟩, hB, hs, hk⟩ := h
  have := hB1.size
  exact ⟨⟨v', hb, fun b hbb => (ho b hbb).imp id (fun h => by omega)⟩, hB, by omega, fun k h1 h2 h3 => (hk k (by omega) h2 h3).trans (hB1.block k h1)⟩
theorem rCopy_yes (g : Nat) (v : Value) (xs : List ByteArray) (i : Nat) (x : ByteArray) (w0 w : World) (h : Bg 45 w0 w g v xs) (hB : Below w0.heap.size w0 w) (hx : xs[i]? = some x) :
    Calls Try.prog 16 #[.pointer (some ⟨g, 0, none⟩), .int .i64 i] w fun e w' => e = .returned (.bool (decide (xs.length < 64))) ∧ Does 45 w0 w w' g v (sent xs x) := by
  go_enter Try.func16, Try.ntmps16
  go_wp2_with (first | (go_at_call 20; refine (rLook_yes _ v xs i x w0 _ h hx).mono ?_; rintro e w2 ⟨rfl, HB⟩; have h2 := Bg.below h HB; have hB2 := hB.trans (HB.mono hB.size)) | (go_at_call 12; refine (rSend_any _ v xs x w0 _ h2 hB2).mono ?_; rintro e w3 ⟨rfl, hd⟩))
  go_ret
  exact ⟨rfl, Does.after HB hd⟩
end Go.Proofs.Ytoiilcljdepdaaa.Bg
