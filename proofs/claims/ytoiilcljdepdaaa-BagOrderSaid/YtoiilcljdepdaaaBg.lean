/- A bag in memory: its texts are a row of its own. -/
import Derived.Test.YtoiilcljdepdaaaPBagPlaysx1
import Derived.Lib.Hide
import Derived.StillTailTactics
namespace Go.Proofs.Ytoiilcljdepdaaa.Bg
set_option linter.unusedVariables false
set_option linter.unusedSimpArgs false
open Go.RowKit Go.Proofs.YtoiilcljdepdaaaW.PrintWords Go.Proofs.YtoiilcljdepdaaaW.PrintLast Go.Proofs.YtoiilcljdepdaaaW.PrintMore Go.Proofs.Ytoiilcljdepdaaa.PBagPlays
attribute [local go_sem] max2_int min2_int max_two min_two max_three min_three max_four min_four
/-- the bag's struct at block g, its texts the row v -/
def Bg (t : Nat) (w0 W : World) (g : Nat) (v : Value) (xs : List ByteArray) : Prop :=
  W.heap[g]? = some (.cells #[v] t (0, 0)) ∧ w0.heap.size ≤ g ∧ Kd.string.R 9 W w0.heap.size (fun k => k ≠ g) v xs
/-- block g, and v's own block, are all that may be another one -/
def Keeps (W W' : World) (g : Nat) (v : Value) : Prop := W.heap.size ≤ W'.heap.size ∧ ∀ i, i < W.heap.size → i ≠ g → some i ≠ v.ownBlock → W'.heap[i]? = W.heap[i]?
theorem Send_full (g : Nat) (v : Value) (xs : List ByteArray) (s : ByteArray) (w0 w : World) (h : Bg 43 w0 w g v xs) (hB : Below w0.heap.size w0 w) (hl : 64 ≤ xs.length) :
    Calls Try.prog 11 #[.pointer (some ⟨g, 0, none⟩), .string s] w fun e w' => e = .returned (.bool false) ∧ Bg 43 w0 w' g v xs ∧ Below w0.heap.size w0 w' ∧ Keeps w w' g v := by
  obtain ⟨hb, hg, hR⟩ := h
  obtain ⟨A, c, rfl⟩ := Kd.R_slice hR
  have hc := (blk_cell hb 0).trans rfl
  have hlt : decide ((xs.length : Int) ≥ 64) = true := by simp; omega
  go_enter Try.func11, Try.ntmps11
  go_wp2_with fail
  go_ret
  exact ⟨rfl, ⟨hb, hg, hR⟩, hB, Nat.le_refl _, fun _ _ _ _ => rfl⟩
theorem Send_room (g : Nat) (v : Value) (xs : List ByteArray) (s : ByteArray) (w0 w : World) (h : Bg 43 w0 w g v xs) (hB : Below w0.heap.size w0 w) (hl : xs.length < 64) :
    Calls Try.prog 11 #[.pointer (some ⟨g, 0, none⟩), .string s] w fun e w' => e = .returned (.bool true) ∧ (∃ v', Bg 43 w0 w' g v' (xs ++ [s]) ∧ (v'.ownBlock = v.ownBlock ∨ ∃ b, v'.ownBlock = some b ∧ w.heap.size ≤ b)) ∧ Below w0.heap.size w0 w' ∧ Keeps w w' g v := by
  obtain ⟨hb, hg, hR⟩ := h
  obtain ⟨A, c, rfl⟩ := Kd.R_slice hR
  have hc := (blk_cell hb 0).trans rfl
  have hlt : decide ((xs.length : Int) ≥ 64) = false := by simp; omega
  go_enter Try.func11, Try.ntmps11
  have hlt2 := blk_lt hb
  have hna := Kd.R_away hR (fun _ hk => hk)
  go_wp2_with (first | (at_builtin; refine Kd.R_append Kd.string (w0 := w0) w0.heap.size rfl (.tmp 15) (.tmp 17) 37 9 (.string ⟨#[]⟩) 16 rfl Try.underlying37 (by kernel_rfl) rfl (by decide) (by omega) (.slice A xs.length c) xs s [.string s] (fun k => k ≠ g) (fun _ => False) rfl rfl ?aP (fun _ hk => hk.elim) ?aF ?aO ?aB ?aS ?aL ?_; (case aP => exact rfl); (case aB => exact hB); (case aF => exact (fun k hk e => by omega)); (case aO => exact hR); (case aS => exact hB.size); (case aL => omega); intro v1 w1 ho hb1 hg1 hat; obtain ⟨A1, c1, rfl⟩ := Kd.R_slice ho; have hb2 := (hg1.block g hlt2 hna).trans hb; have hc2 := (blk_cell hb2 0).trans rfl; have hf2 := blk_frozen hb2 0))
  go_ret
  have e1 : (xs ++ [s]).length = xs.length + 1 := by simp
  rw [e1] at ho hat
  have hge : w0.heap.size ≤ (⟨g, 0, none⟩ : Addr).block := hg
  refine ⟨rfl, ⟨.slice A1 (xs.length + 1) c1, ⟨blk_put hb2 0 _ rfl, hg, Kd.R_far ho (p := ⟨g, 0, none⟩) (fun k hk => hk) _⟩, hat⟩, hb1.setCell (p := ⟨g, 0, none⟩) hge _, ?_, fun i hi hne hno => ?_⟩
  · have := hg1.size
    simpa [World.setCell] using this
  · exact (Below.heap_setCell w1 ⟨g, 0, none⟩ _ i hne).trans (hg1.block i hi hno)
theorem rSend_full (g : Nat) (v : Value) (xs : List ByteArray) (s : ByteArray) (w0 w : World) (h : Bg 45 w0 w g v xs) (hB : Below w0.heap.size w0 w) (hl : 64 ≤ xs.length) :
    Calls Try.prog 12 #[.pointer (some ⟨g, 0, none⟩), .string s] w fun e w' => e = .returned (.bool false) ∧ Bg 45 w0 w' g v xs ∧ Below w0.heap.size w0 w' ∧ Keeps w w' g v := by
  obtain ⟨hb, hg, hR⟩ := h
  obtain ⟨A, c, rfl⟩ := Kd.R_slice hR
  have hc := (blk_cell hb 0).trans rfl
  have hlt : decide ((xs.length : Int) ≥ 64) = true := by simp; omega
  go_enter Try.func12, Try.ntmps12
  go_wp2_with fail
  go_ret
  exact ⟨rfl, ⟨hb, hg, hR⟩, hB, Nat.le_refl _, fun _ _ _ _ => rfl⟩
theorem rSend_room (g : Nat) (v : Value) (xs : List ByteArray) (s : ByteArray) (w0 w : World) (h : Bg 45 w0 w g v xs) (hB : Below w0.heap.size w0 w) (hl : xs.length < 64) :
    Calls Try.prog 12 #[.pointer (some ⟨g, 0, none⟩), .string s] w fun e w' => e = .returned (.bool true) ∧ (∃ v', Bg 45 w0 w' g v' (xs ++ [s]) ∧ (v'.ownBlock = v.ownBlock ∨ ∃ b, v'.ownBlock = some b ∧ w.heap.size ≤ b)) ∧ Below w0.heap.size w0 w' ∧ Keeps w w' g v := by
  obtain ⟨hb, hg, hR⟩ := h
  obtain ⟨A, c, rfl⟩ := Kd.R_slice hR
  have hc := (blk_cell hb 0).trans rfl
  have hlt : decide ((xs.length : Int) ≥ 64) = false := by simp; omega
  go_enter Try.func12, Try.ntmps12
  have hlt2 := blk_lt hb
  have hna := Kd.R_away hR (fun _ hk => hk)
  go_wp2_with (first | (at_builtin; refine Kd.R_append Kd.string (w0 := w0) w0.heap.size rfl (.tmp 15) (.tmp 17) 37 9 (.string ⟨#[]⟩) 16 rfl Try.underlying37 (by kernel_rfl) rfl (by decide) (by omega) (.slice A xs.length c) xs s [.string s] (fun k => k ≠ g) (fun _ => False) rfl rfl ?aP (fun _ hk => hk.elim) ?aF ?aO ?aB ?aS ?aL ?_; (case aP => exact rfl); (case aB => exact hB); (case aF => exact (fun k hk e => by omega)); (case aO => exact hR); (case aS => exact hB.size); (case aL => omega); intro v1 w1 ho hb1 hg1 hat; obtain ⟨A1, c1, rfl⟩ := Kd.R_slice ho; have hb2 := (hg1.block g hlt2 hna).trans hb; have hc2 := (blk_cell hb2 0).trans rfl; have hf2 := blk_frozen hb2 0))
  go_ret
  have e1 : (xs ++ [s]).length = xs.length + 1 := by simp
  rw [e1] at ho hat
  have hge : w0.heap.size ≤ (⟨g, 0, none⟩ : Addr).block := hg
  refine ⟨rfl, ⟨.slice A1 (xs.length + 1) c1, ⟨blk_put hb2 0 _ rfl, hg, Kd.R_far ho (p := ⟨g, 0, none⟩) (fun k hk => hk) _⟩, hat⟩, hb1.setCell (p := ⟨g, 0, none⟩) hge _, ?_, fun i hi hne hno => ?_⟩
  · have := hg1.size
    simpa [World.setCell] using this
  · exact (Below.heap_setCell w1 ⟨g, 0, none⟩ _ i hne).trans (hg1.block i hi hno)
end Go.Proofs.Ytoiilcljdepdaaa.Bg
