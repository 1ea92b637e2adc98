/- A bag's closures. -/
import Derived.Test.YtoiilcljdepdaaaDel
import Derived.IntWalk
import Derived.Deep.RegionHeld3
namespace Go.Proofs.Ytoiilcljdepdaaa.Bg
set_option linter.unusedVariables false
set_option linter.unusedSimpArgs false
open Go.RowKit Go.Proofs.YtoiilcljdepdaaaW.PrintWords Go.Proofs.YtoiilcljdepdaaaW.PrintLast Go.Proofs.YtoiilcljdepdaaaW.PrintMore Go.Proofs.Ytoiilcljdepdaaa.PBagPlays
attribute [local go_sem] max2_int min2_int max_two min_two max_three min_three max_four min_four
/-- v' owns no block but v's or a new one -/
def Owns (n : Nat) (v v' : Value) : Prop := ∀ b, v'.ownBlock = some b → v.ownBlock = some b ∨ n ≤ b
theorem Owns.same (n : Nat) {v v' : Value} (h : v'.ownBlock = v.ownBlock) : Owns n v v' := fun b hb => .inl (h ▸ hb)
theorem Owns.of {n : Nat} {v v' : Value} (h : v'.ownBlock = v.ownBlock ∨ ∃ b, v'.ownBlock = some b ∧ n ≤ b) : Owns n v v' := by
  rcases h with h | ⟨b, hb, hn⟩
  · exact Owns.same n h
  · intro b' hb'; rw [hb] at hb'; injection hb' with e; subst e; exact .inr hn
/-- what an operation on a bag does: its texts are xs' -/
def Does (t : Nat) (w0 w w' : World) (g : Nat) (v : Value) (xs' : List ByteArray) : Prop :=
  (∃ v', Bg t w0 w' g v' xs' ∧ Owns w.heap.size v v') ∧ Below w0.heap.size w0 w' ∧ Keeps w w' g v
theorem grownSet (W : World) (b : Nat) (v : Value) : W.grownBy (W.setCell ⟨b, 0, none⟩ v) (some b) := ⟨rfl, rfl, rfl, by simp [World.setCell], fun k _ hk => Below.heap_setCell _ _ _ k (fun e => hk (by rw [e]))⟩
theorem R_cap {α : Type} {d : Kd α} {e base : Nat} {ok : Nat → Prop} {w : World} {A : Option Addr} {n c : Nat} {xs : List α} (h : d.R e w base ok (.slice A n c) xs) : c ≤ 9223372036854775807 := by
  obtain ⟨inner, ho⟩ := Kd.R_own h
  rcases ho.2 with ⟨he, _⟩ | ⟨g, cap, cur, he, _, _, _, hm, _⟩
  · injection he with _ _ hc; omega
  · injection he with _ _ hc; subst hc; exact hm
theorem blk_keep {w w' : World} {o : Nat} {b : Obj} (h : w.heap[o]? = some b) (hk : ∀ k, k < w.heap.size → k = o → w'.heap[k]? = w.heap[k]?) : w'.heap[o]? = some b := (hk o (blk_lt h) rfl).trans h
theorem look1 (s u : ByteArray) (o : Nat) (w0 w : World) (hB : Below w0.heap.size w0 w) (ho : w0.heap.size ≤ o) (hO : w.heap[o]? = some (.cells #[.string u] 9 (0, 0))) :
    Calls Try.prog 27 #[.string s, .pointer (some ⟨o, 0, none⟩)] w fun e w' => e = .returned (.bool true) ∧ w'.heap[o]? = some (.cells #[.string s] 9 (0, 0)) ∧ Below w0.heap.size w0 w' ∧ w.grownBy w' (some o) := by
  have hc := (blk_cell hO 0).trans rfl
  have hf := blk_frozen hO 0
  go_enter Try.func27, Try.ntmps27
  go_wp2_with fail
  go_ret
  exact ⟨rfl, blk_put hO 0 _ rfl, hB.setCell (p := ⟨o, 0, none⟩) ho _, grownSet w o _⟩
set_option maxHeartbeats 8000000 in
theorem take1 (s u : ByteArray) (o p q g i : Nat) (v : Value) (xs : List ByteArray) (w0 w : World) (hB : Below w0.heap.size w0 w) (ho : w0.heap.size ≤ o) (hO : w.heap[o]? = some (.cells #[.string u] 9 (0, 0)))
    (hp : w.heap[p]? = some (.cells #[.pointer (some ⟨g, 0, none⟩)] 24 (0, 0))) (hq : w.heap[q]? = some (.cells #[.int .i64 i] 3 (0, 0))) (h : Bg 43 w0 w g v xs) (hi : i < xs.length) (hov : some o ≠ v.ownBlock) :
    Calls Try.prog 24 #[.string s, .pointer (some ⟨o, 0, none⟩), .pointer (some ⟨p, 0, none⟩), .pointer (some ⟨q, 0, none⟩)] w fun e w' => e = .returned (.bool true) ∧ w'.heap[o]? = some (.cells #[.string s] 9 (0, 0)) ∧ (∃ v', Bg 43 w0 w' g v' (xs.eraseIdx i) ∧ v'.ownBlock = v.ownBlock) ∧ Below w0.heap.size w0 w' ∧ w.heap.size ≤ w'.heap.size ∧ (∀ k, k < w.heap.size → k ≠ g → k ≠ o → some k ≠ v.ownBlock → w'.heap[k]? = w.heap[k]?) := by
  obtain ⟨hb, hg, hR⟩ := h
  obtain ⟨A, c, rfl⟩ := Kd.R_slice hR
  have hc0 := (blk_cell hO 0).trans rfl
  have hf0 := blk_frozen hO 0
  have hm := R_cap hR
  have hcl := (Kd.R_reads' hR).2.1
  have hgo : g ≠ o := by rintro rfl; rw [hb] at hO; simp at hO
  have hpo : p ≠ o := by rintro rfl; rw [hp] at hO; simp at hO
  have hqo : q ≠ o := by rintro rfl; rw [hq] at hO; simp at hO
  have hwr : IntKind.i64.wrap ((i : Int) + 1) = (i : Int) + 1 := IntWalk.i64_in _ (by omega)
  go_enter Try.func24, Try.ntmps24
  go_wp2_with fail
  have hO1 : (w.setCell ⟨o, 0, none⟩ (.string s)).heap[o]? = some (.cells #[.string s] 9 (0, 0)) := blk_put hO 0 _ rfl
  have hB1 : Below w0.heap.size w0 (w.setCell ⟨o, 0, none⟩ (.string s)) := hB.setCell (p := ⟨o, 0, none⟩) ho _
  have hG1 : w.grownBy (w.setCell ⟨o, 0, none⟩ (.string s)) (some o) := grownSet w o _
  revert hO1 hB1 hG1
  generalize w.setCell ⟨o, 0, none⟩ (.string s) = w1
  intro hO1 hB1 hG1
  have hR1 : Kd.string.R 9 w1 w0.heap.size (fun k => k ≠ g) (.slice A xs.length c) xs := Kd.R_grown1 hR rfl hG1 hov
  have hp1 := blk_grown hp hG1 (by simpa using hpo)
  have hq1 := blk_grown hq hG1 (by simpa using hqo)
  have hb1 := blk_grown hb hG1 (by simpa using hgo)
  clear hO hp hq hb hR
  have hcp := (blk_cell hp1 0).trans rfl
  have hcq := (blk_cell hq1 0).trans rfl
  have hcg := (blk_cell hb1 0).trans rfl
  have hfg := blk_frozen hb1 0
  have hgp : (⟨g, 0, none⟩ : Addr) ≠ ⟨p, 0, none⟩ := by rintro h; injection h with h; subst h; rw [hb1] at hp1; simp at hp1
  have hgq : (⟨g, 0, none⟩ : Addr) ≠ ⟨q, 0, none⟩ := by rintro h; injection h with h; subst h; rw [hb1] at hq1; simp at hq1
  have hvp : some p ≠ (Value.slice A xs.length c).ownBlock := fun e => by obtain ⟨cells, hc⟩ := Kd.R_typed hR1 p e.symm; rw [hp1] at hc; simp at hc
  have hvq : some q ≠ (Value.slice A xs.length c).ownBlock := fun e => by obtain ⟨cells, hc⟩ := Kd.R_typed hR1 q e.symm; rw [hq1] at hc; simp at hc
  refine wp_region_held_drew (S := fun w' => w'.cell? ⟨p, 0, none⟩ = some (.pointer (some ⟨g, 0, none⟩)) ∧ w'.cell? ⟨q, 0, none⟩ = some (.int .i64 i)) (by kernel_rfl) ⟨hcp, hcq⟩ (fun hHeld => ?_)
  refine wpAnyH_take (i := 0) (v := (.pointer (some ⟨g, 0, none⟩))) rfl (by kernel_rfl) (by kernel_rfl) (by kernel_rfl) (fun _ _ _ h => h) (Or.inl ⟨by rfl, fun w hSw => by have hs1 := hSw.1; have hs2 := hSw.2; go_simp⟩) (by assumption) ?_
  simp only [Act.put, List.setIfInBounds_toArray, List.set_cons_zero, List.set_cons_succ]
  refine wpAnyH_take (i := 1) (v := (.pointer (some ⟨g, 0, none⟩))) rfl (by kernel_rfl) (by kernel_rfl) (by kernel_rfl) (fun _ _ _ h => h) (Or.inl ⟨by rfl, fun w hSw => by have hs1 := hSw.1; have hs2 := hSw.2; go_simp⟩) (by assumption) ?_
  simp only [Act.put, List.setIfInBounds_toArray, List.set_cons_zero, List.set_cons_succ]
  refine wpAnyH_take (i := 2) (v := (.pointer (some ⟨g, 0, none⟩))) rfl (by kernel_rfl) (by kernel_rfl) (by kernel_rfl) (fun _ _ _ h => h) (Or.inl ⟨by rfl, fun w hSw => by have hs1 := hSw.1; have hs2 := hSw.2; go_simp⟩) (by assumption) ?_
  simp only [Act.put, List.setIfInBounds_toArray, List.set_cons_zero, List.set_cons_succ]
  refine wpAnyH_take (i := 3) (v := (.pointer (some ⟨g, 0, none⟩))) rfl (by kernel_rfl) (by kernel_rfl) (by kernel_rfl) (fun _ _ _ h => h) (Or.inl ⟨by rfl, fun w hSw => by have hs1 := hSw.1; have hs2 := hSw.2; go_simp⟩) (by assumption) ?_
  simp only [Act.put, List.setIfInBounds_toArray, List.set_cons_zero, List.set_cons_succ]
  refine wpAnyH_take (i := 5) (v := (.int .i64 i)) rfl (by kernel_rfl) (by kernel_rfl) (by kernel_rfl) (fun _ _ _ h => h) (Or.inl ⟨by rfl, fun w hSw => by have hs1 := hSw.1; have hs2 := hSw.2; go_simp⟩) (by assumption) ?_
  simp only [Act.put, List.setIfInBounds_toArray, List.set_cons_zero, List.set_cons_succ]
  refine wpAnyH_take (i := 6) (v := (.int .i64 i)) rfl (by kernel_rfl) (by kernel_rfl) (by kernel_rfl) (fun _ _ _ h => h) (Or.inl ⟨by rfl, fun w hSw => by have hs1 := hSw.1; have hs2 := hSw.2; go_simp⟩) (by assumption) ?_
  simp only [Act.put, List.setIfInBounds_toArray, List.set_cons_zero, List.set_cons_succ]
  refine wpAnyH_take (i := 7) (v := (.int .i64 ((i : Int) + 1))) rfl (by kernel_rfl) (by kernel_rfl) (by kernel_rfl) (fun _ _ _ h => h) (Or.inl ⟨by rfl, fun w hSw => by have hs1 := hSw.1; have hs2 := hSw.2; go_simp⟩) (by assumption) ?_
  simp only [Act.put, List.setIfInBounds_toArray, List.set_cons_zero, List.set_cons_succ]
  refine wpAnyH_ready (rs := [4]) (by kernel_rfl) (by simp) ?_
  refine AllReadyH.cons rfl (fun K hK => ?_) AllReadyH.nil
  go_simp
  refine hK.out _ _ ⟨hcp, hcq⟩ (fun hHeld => ?_)
  clear hK K
  try simp only [Act.put, List.setIfInBounds_toArray, List.set_cons_zero, List.set_cons_succ]
  refine wpAnyH_ready (rs := [8]) (by kernel_rfl) (by simp) ?_
  refine AllReadyH.cons rfl (fun K hK => ?_) AllReadyH.nil
  go_simp
  go_at_call 25; refine (del A c w0.heap.size _ xs i _ (Kd.R_drew hR1) hi hm).mono ?_; rintro e w2 ⟨rfl, hR2, hG2⟩; have hb2 := blk_grown (w := w1.drew) hb1 hG2 (Kd.R_away hR1 (fun _ hk => hk)); have hp2 := blk_grown (w := w1.drew) hp1 hG2 hvp; have hq2 := blk_grown (w := w1.drew) hq1 hG2 hvq; have hcp2 := (blk_cell hp2 0).trans rfl; have hcq2 := (blk_cell hq2 0).trans rfl; have hcg2 := (blk_cell hb2 0).trans rfl; have hfg2 := blk_frozen hb2 0
  go_wp2_with fail
  refine hK.out _ _ ⟨hcp2, hcq2⟩ (fun hHeld => ?_)
  clear hK K
  try simp only [Act.put, List.setIfInBounds_toArray, List.set_cons_zero, List.set_cons_succ]
  refine wpAnyH_take (i := 9) (v := (.pointer (some ⟨g, 0, none⟩))) rfl (by kernel_rfl) (by kernel_rfl) (by kernel_rfl) (fun _ _ _ h => h) (Or.inl ⟨by rfl, fun w hSw => by have hs1 := hSw.1; have hs2 := hSw.2; go_simp⟩) (by assumption) ?_
  simp only [Act.put, List.setIfInBounds_toArray, List.set_cons_zero, List.set_cons_succ]
  refine wpAnyH_take (i := 10) (v := (.pointer (some ⟨g, 0, none⟩))) rfl (by kernel_rfl) (by kernel_rfl) (by kernel_rfl) (fun _ _ _ h => h) (Or.inl ⟨by rfl, fun w hSw => by have hs1 := hSw.1; have hs2 := hSw.2; go_simp⟩) (by assumption) ?_
  simp only [Act.put, List.setIfInBounds_toArray, List.set_cons_zero, List.set_cons_succ]
  refine wpAnyH_ready (rs := [11]) (by kernel_rfl) (by simp) ?_
  refine AllReadyH.cons rfl (fun K hK => ?_) AllReadyH.nil
  go_simp
  refine hK.out _ _ ⟨(World.cell?_setCell_other _ _ _ _ hgp).trans hcp2, (World.cell?_setCell_other _ _ _ _ hgq).trans hcq2⟩ (fun hHeld => ?_)
  clear hK K
  try simp only [Act.put, List.setIfInBounds_toArray, List.set_cons_zero, List.set_cons_succ]
  refine wpAnyH_done (by kernel_rfl) ?_ _
  go_wp2_with fail
  go_ret
  have hl1 : (xs.eraseIdx i).length = xs.length - 1 := by rw [List.length_eraseIdx_of_lt hi]
  have hge : w0.heap.size ≤ (⟨g, 0, none⟩ : Addr).block := hg
  have hsz := hG2.size
  refine ⟨rfl, ?_, ⟨.slice A (xs.length - 1) c, ⟨blk_put hb2 0 _ rfl, hg, Kd.R_far hR2 (p := ⟨g, 0, none⟩) (fun k hk => hk) _⟩, ?_⟩, ?_, ?_, fun k hk hkg hko hkv => ?_⟩
  · refine blk_far (p := ⟨g, 0, none⟩) (blk_grown (w := w1.drew) hO1 hG2 hov) (fun h => hgo h.symm) _
  · cases A <;> rfl
  · refine Below.setCell ?_ (p := ⟨g, 0, none⟩) hge _
    exact pw_below_grown (hB1.drew) _ (Nat.le_trans hB1.size (Nat.le_refl _)) hG2 (Kd.R_base hR1)
  · have := hG1.size
    simp [World.setCell]
    exact Nat.le_trans this hsz
  · refine (Below.heap_setCell w2 ⟨g, 0, none⟩ _ k hkg).trans ((hG2.block k (Nat.lt_of_lt_of_le hk hG1.size) hkv).trans (hG1.block k hk ?_))
    intro e; injection e with e; exact hko e
set_option maxHeartbeats 8000000 in
theorem drop1 (s : ByteArray) (p q g i : Nat) (v : Value) (xs : List ByteArray) (w0 w : World) (hB : Below w0.heap.size w0 w)
    (hp : w.heap[p]? = some (.cells #[.pointer (some ⟨g, 0, none⟩)] 24 (0, 0))) (hq : w.heap[q]? = some (.cells #[.int .i64 i] 3 (0, 0))) (h : Bg 43 w0 w g v xs) (hi : i < xs.length) :
    Calls Try.prog 26 #[.string s, .pointer (some ⟨p, 0, none⟩), .pointer (some ⟨q, 0, none⟩)] w fun e w' => e = .returned (.bool true) ∧ (∃ v', Bg 43 w0 w' g v' (xs.eraseIdx i) ∧ v'.ownBlock = v.ownBlock) ∧ Below w0.heap.size w0 w' ∧ w.heap.size ≤ w'.heap.size ∧ (∀ k, k < w.heap.size → k ≠ g → some k ≠ v.ownBlock → w'.heap[k]? = w.heap[k]?) := by
  obtain ⟨hb, hg, hR⟩ := h
  obtain ⟨A, c, rfl⟩ := Kd.R_slice hR
  have hm := R_cap hR
  have hcl := (Kd.R_reads' hR).2.1
  have hwr : IntKind.i64.wrap ((i : Int) + 1) = (i : Int) + 1 := IntWalk.i64_in _ (by omega)
  go_enter Try.func26, Try.ntmps26
  go_wp2_with fail
  have hcp := (blk_cell hp 0).trans rfl
  have hcq := (blk_cell hq 0).trans rfl
  have hcg := (blk_cell hb 0).trans rfl
  have hfg := blk_frozen hb 0
  have hgp : (⟨g, 0, none⟩ : Addr) ≠ ⟨p, 0, none⟩ := by rintro h; injection h with h; subst h; rw [hb] at hp; simp at hp
  have hgq : (⟨g, 0, none⟩ : Addr) ≠ ⟨q, 0, none⟩ := by rintro h; injection h with h; subst h; rw [hb] at hq; simp at hq
  have hvp : some p ≠ (Value.slice A xs.length c).ownBlock := fun e => by obtain ⟨cells, hc⟩ := Kd.R_typed hR p e.symm; rw [hp] at hc; simp at hc
  have hvq : some q ≠ (Value.slice A xs.length c).ownBlock := fun e => by obtain ⟨cells, hc⟩ := Kd.R_typed hR q e.symm; rw [hq] at hc; simp at hc
  refine wp_region_held_drew (S := fun w' => w'.cell? ⟨p, 0, none⟩ = some (.pointer (some ⟨g, 0, none⟩)) ∧ w'.cell? ⟨q, 0, none⟩ = some (.int .i64 i)) (by kernel_rfl) ⟨hcp, hcq⟩ (fun hHeld => ?_)
  refine wpAnyH_take (i := 0) (v := (.pointer (some ⟨g, 0, none⟩))) rfl (by kernel_rfl) (by kernel_rfl) (by kernel_rfl) (fun _ _ _ h => h) (Or.inl ⟨by rfl, fun w hSw => by have hs1 := hSw.1; have hs2 := hSw.2; go_simp⟩) (by assumption) ?_
  simp only [Act.put, List.setIfInBounds_toArray, List.set_cons_zero, List.set_cons_succ]
  refine wpAnyH_take (i := 1) (v := (.pointer (some ⟨g, 0, none⟩))) rfl (by kernel_rfl) (by kernel_rfl) (by kernel_rfl) (fun _ _ _ h => h) (Or.inl ⟨by rfl, fun w hSw => by have hs1 := hSw.1; have hs2 := hSw.2; go_simp⟩) (by assumption) ?_
  simp only [Act.put, List.setIfInBounds_toArray, List.set_cons_zero, List.set_cons_succ]
  refine wpAnyH_take (i := 2) (v := (.pointer (some ⟨g, 0, none⟩))) rfl (by kernel_rfl) (by kernel_rfl) (by kernel_rfl) (fun _ _ _ h => h) (Or.inl ⟨by rfl, fun w hSw => by have hs1 := hSw.1; have hs2 := hSw.2; go_simp⟩) (by assumption) ?_
  simp only [Act.put, List.setIfInBounds_toArray, List.set_cons_zero, List.set_cons_succ]
  refine wpAnyH_take (i := 3) (v := (.pointer (some ⟨g, 0, none⟩))) rfl (by kernel_rfl) (by kernel_rfl) (by kernel_rfl) (fun _ _ _ h => h) (Or.inl ⟨by rfl, fun w hSw => by have hs1 := hSw.1; have hs2 := hSw.2; go_simp⟩) (by assumption) ?_
  simp only [Act.put, List.setIfInBounds_toArray, List.set_cons_zero, List.set_cons_succ]
  refine wpAnyH_take (i := 5) (v := (.int .i64 i)) rfl (by kernel_rfl) (by kernel_rfl) (by kernel_rfl) (fun _ _ _ h => h) (Or.inl ⟨by rfl, fun w hSw => by have hs1 := hSw.1; have hs2 := hSw.2; go_simp⟩) (by assumption) ?_
  simp only [Act.put, List.setIfInBounds_toArray, List.set_cons_zero, List.set_cons_succ]
  refine wpAnyH_take (i := 6) (v := (.int .i64 i)) rfl (by kernel_rfl) (by kernel_rfl) (by kernel_rfl) (fun _ _ _ h => h) (Or.inl ⟨by rfl, fun w hSw => by have hs1 := hSw.1; have hs2 := hSw.2; go_simp⟩) (by assumption) ?_
  simp only [Act.put, List.setIfInBounds_toArray, List.set_cons_zero, List.set_cons_succ]
  refine wpAnyH_take (i := 7) (v := (.int .i64 ((i : Int) + 1))) rfl (by kernel_rfl) (by kernel_rfl) (by kernel_rfl) (fun _ _ _ h => h) (Or.inl ⟨by rfl, fun w hSw => by have hs1 := hSw.1; have hs2 := hSw.2; go_simp⟩) (by assumption) ?_
  simp only [Act.put, List.setIfInBounds_toArray, List.set_cons_zero, List.set_cons_succ]
  refine wpAnyH_ready (rs := [4]) (by kernel_rfl) (by simp) ?_
  refine AllReadyH.cons rfl (fun K hK => ?_) AllReadyH.nil
  go_simp
  refine hK.out _ _ ⟨hcp, hcq⟩ (fun hHeld => ?_)
  clear hK K
  try simp only [Act.put, List.setIfInBounds_toArray, List.set_cons_zero, List.set_cons_succ]
  refine wpAnyH_ready (rs := [8]) (by kernel_rfl) (by simp) ?_
  refine AllReadyH.cons rfl (fun K hK => ?_) AllReadyH.nil
  go_simp
  go_at_call 25; refine (del A c w0.heap.size _ xs i _ (Kd.R_drew hR) hi hm).mono ?_; rintro e w2 ⟨rfl, hR2, hG2⟩; have hb2 := blk_grown (w := w.drew) hb hG2 (Kd.R_away hR (fun _ hk => hk)); have hp2 := blk_grown (w := w.drew) hp hG2 hvp; have hq2 := blk_grown (w := w.drew) hq hG2 hvq; have hcp2 := (blk_cell hp2 0).trans rfl; have hcq2 := (blk_cell hq2 0).trans rfl; have hcg2 := (blk_cell hb2 0).trans rfl; have hfg2 := blk_frozen hb2 0
  go_wp2_with fail
  refine hK.out _ _ ⟨hcp2, hcq2⟩ (fun hHeld => ?_)
  clear hK K
  try simp only [Act.put, List.setIfInBounds_toArray, List.set_cons_zero, List.set_cons_succ]
  refine wpAnyH_take (i := 9) (v := (.pointer (some ⟨g, 0, none⟩))) rfl (by kernel_rfl) (by kernel_rfl) (by kernel_rfl) (fun _ _ _ h => h) (Or.inl ⟨by rfl, fun w hSw => by have hs1 := hSw.1; have hs2 := hSw.2; go_simp⟩) (by assumption) ?_
  simp only [Act.put, List.setIfInBounds_toArray, List.set_cons_zero, List.set_cons_succ]
  refine wpAnyH_take (i := 10) (v := (.pointer (some ⟨g, 0, none⟩))) rfl (by kernel_rfl) (by kernel_rfl) (by kernel_rfl) (fun _ _ _ h => h) (Or.inl ⟨by rfl, fun w hSw => by have hs1 := hSw.1; have hs2 := hSw.2; go_simp⟩) (by assumption) ?_
  simp only [Act.put, List.setIfInBounds_toArray, List.set_cons_zero, List.set_cons_succ]
  refine wpAnyH_ready (rs := [11]) (by kernel_rfl) (by simp) ?_
  refine AllReadyH.cons rfl (fun K hK => ?_) AllReadyH.nil
  go_simp
  refine hK.out _ _ ⟨(World.cell?_setCell_other _ _ _ _ hgp).trans hcp2, (World.cell?_setCell_other _ _ _ _ hgq).trans hcq2⟩ (fun hHeld => ?_)
  clear hK K
  try simp only [Act.put, List.setIfInBounds_toArray, List.set_cons_zero, List.set_cons_succ]
  refine wpAnyH_done (by kernel_rfl) ?_ _
  go_wp2_with fail
  go_ret
  have hl1 : (xs.eraseIdx i).length = xs.length - 1 := by rw [List.length_eraseIdx_of_lt hi]
  have hge : w0.heap.size ≤ (⟨g, 0, none⟩ : Addr).block := hg
  have hsz := hG2.size
  refine ⟨rfl, ⟨.slice A (xs.length - 1) c, ⟨blk_put hb2 0 _ rfl, hg, Kd.R_far hR2 (p := ⟨g, 0, none⟩) (fun k hk => hk) _⟩, ?_⟩, ?_, ?_, fun k hk hkg hkv => ?_⟩
  · cases A <;> rfl
  · refine Below.setCell ?_ (p := ⟨g, 0, none⟩) hge _
    exact pw_below_grown (hB.drew) _ (Nat.le_trans hB.size (Nat.le_refl _)) hG2 (Kd.R_base hR)
  · simp [World.setCell]
    exact hsz
  · refine (Below.heap_setCell w2 ⟨g, 0, none⟩ _ k hkg).trans (hG2.block k hk hkv)
end Go.Proofs.Ytoiilcljdepdaaa.Bg
