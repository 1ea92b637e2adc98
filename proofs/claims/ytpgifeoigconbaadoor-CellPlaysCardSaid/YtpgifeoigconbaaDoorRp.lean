/- The document's cell: Report. -/
import Derived.Test.YtpgifeoigconbaaDoorCl
namespace Go.Proofs.YtpgifeoigconbaaDoor.Cl
set_option linter.unusedVariables false
set_option linter.unusedSimpArgs false
open Go.RowKit Go.Proofs.YtpgifeoigconbaaDoorW.PrintWords Go.Proofs.YtpgifeoigconbaaDoorW.PrintLast Go.Proofs.YtpgifeoigconbaaDoor.Mo Go.Proofs.YtpgifeoigconbaaDoor.Q
variable {ok : Nat → Prop}
attribute [local go_sem] max2_int min2_int max_two min_two max_three min_three max_four min_four
set_option maxHeartbeats 4000000 in
theorem rreport_any (g : Nat) (n b e v u : Int) (V : Value) (bs : List S35) (w0 w : World) (h : Ce ok 53 w0 w g n b e v u V bs) (hl : bs.length ≤ 2000000000000) :
    Calls Tryd.prog 16 #[.pointer (some ⟨g, 0, none⟩)] w fun ee w' => ∃ A c, ee = .returned (.agg #[.int .i64 2, .int .i64 n, .int .i64 b, .int .i64 e, .int .i64 v, .int .i64 u, .slice A bs.length c]) ∧ bs.length ≤ c ∧ Made w w' A bs ∧ Below w.heap.size w w' := by
  obtain ⟨A0, c0, rfl⟩ := Kd.R_slice h.2.2
  have HB := below_alloc (Below.refl w.heap.size w) (.cells #[.int .i64 0, .int .i64 0, .int .i64 0, .int .i64 0, .int .i64 0, .int .i64 0, .slice none 0 0] 31)
  have hO := heap_alloc_new w (.cells #[.int .i64 0, .int .i64 0, .int .i64 0, .int .i64 0, .int .i64 0, .int .i64 0, .slice none 0 0] 31)
  have h1 : Ce ok 53 w0 (w.alloc (.cells #[.int .i64 0, .int .i64 0, .int .i64 0, .int .i64 0, .int .i64 0, .int .i64 0, .slice none 0 0] 31)) g n b e v u (.slice A0 bs.length c0) bs := ⟨(HB.block g (blk_lt h.1)).trans h.1, h.2.1, Kd.R_below h.2.2 HB⟩
  have hgo : g ≠ w.heap.size := by have := blk_lt h.1; omega
  go_enter Tryd.func16, Tryd.ntmps16
  go_wp2_with fail
  revert HB hO h1
  generalize hw0 : w.heap.size = o at *
  generalize w.alloc (.cells #[.int .i64 0, .int .i64 0, .int .i64 0, .int .i64 0, .int .i64 0, .int .i64 0, .slice none 0 0] 31) = wa
  intro HB hO h1
  have c0a := (blk_cell h1.1 0).trans rfl
  have c1a := (blk_cell h1.1 1).trans rfl
  have c2a := (blk_cell h1.1 2).trans rfl
  have c3a := (blk_cell h1.1 3).trans rfl
  have c4a := (blk_cell h1.1 4).trans rfl
  have c5a := (blk_cell h1.1 5).trans rfl
  have hCC := (Kd.R_reads' h1.2.2).2.2
  have hgo2 : ∀ j k, (⟨o, j, none⟩ : Addr) ≠ ⟨g, k, none⟩ := by intro j k e; injection e with e; exact hgo e.symm
  refine wp_region_held_drew (S := fun w' => w'.cell? ⟨g, 0, none⟩ = some (.int .i64 n) ∧ w'.cell? ⟨g, 1, none⟩ = some (.int .i64 b) ∧ w'.cell? ⟨g, 2, none⟩ = some (.int .i64 e) ∧ w'.cell? ⟨g, 3, none⟩ = some (.int .i64 v) ∧ w'.cell? ⟨g, 4, none⟩ = some (.int .i64 u) ∧ w'.cell? ⟨g, 5, none⟩ = some (.slice A0 bs.length c0)) (by kernel_rfl) ⟨c0a, c1a, c2a, c3a, c4a, c5a⟩ (fun hHeld => ?_)
  refine wpAnyH_take (i := 0) (oi := { dst := some 4, op := Op.move (Operand.tmp 0), type := 27, pos := "ref.go:47", after := #[], guard := none }) (v := (.pointer (some ⟨g, 0, none⟩))) rfl (by kernel_rfl) (by kernel_rfl) (by kernel_rfl) (fun _ _ _ h => h) (Or.inl ⟨by rfl, fun w hSw => by obtain ⟨s0, s1, s2, s3, s4, s5⟩ := hSw; go_simp⟩) (by assumption) ?_
  simp only [Act.put, List.setIfInBounds_toArray, List.set_cons_zero, List.set_cons_succ]
  refine wpAnyH_take (i := 1) (oi := { dst := some 5, op := Op.nilCheck (Operand.tmp 4), type := 0, pos := "ref.go:47", after := #[{ on := 0, ground := Ground.data }], guard := none }) (v := (.pointer (some ⟨g, 0, none⟩))) rfl (by kernel_rfl) (by kernel_rfl) (by kernel_rfl) (fun _ _ _ h => h) (Or.inl ⟨by rfl, fun w hSw => by obtain ⟨s0, s1, s2, s3, s4, s5⟩ := hSw; go_simp⟩) (by assumption) ?_
  simp only [Act.put, List.setIfInBounds_toArray, List.set_cons_zero, List.set_cons_succ]
  refine wpAnyH_take (i := 2) (oi := { dst := some 6, op := Op.fieldAddr 53 (Operand.tmp 5) 0, type := 0, pos := "ref.go:47", after := #[{ on := 1, ground := Ground.data }], guard := none }) (v := (.pointer (some ⟨g, 0, none⟩))) rfl (by kernel_rfl) (by kernel_rfl) (by kernel_rfl) (fun _ _ _ h => h) (Or.inl ⟨by rfl, fun w hSw => by obtain ⟨s0, s1, s2, s3, s4, s5⟩ := hSw; go_simp⟩) (by assumption) ?_
  simp only [Act.put, List.setIfInBounds_toArray, List.set_cons_zero, List.set_cons_succ]
  refine wpAnyH_take (i := 3) (oi := { dst := some 7, op := Op.load 3 (Operand.tmp 6), type := 3, pos := "ref.go:47", after := #[{ on := 2, ground := Ground.data }], guard := none }) (v := (.int .i64 n)) rfl (by kernel_rfl) (by kernel_rfl) (by kernel_rfl) (fun _ _ _ h => h) (Or.inl ⟨by rfl, fun w hSw => by obtain ⟨s0, s1, s2, s3, s4, s5⟩ := hSw; go_simp⟩) (by assumption) ?_
  simp only [Act.put, List.setIfInBounds_toArray, List.set_cons_zero, List.set_cons_succ]
  refine wpAnyH_take (i := 4) (oi := { dst := some 8, op := Op.move (Operand.tmp 0), type := 27, pos := "ref.go:47", after := #[], guard := none }) (v := (.pointer (some ⟨g, 0, none⟩))) rfl (by kernel_rfl) (by kernel_rfl) (by kernel_rfl) (fun _ _ _ h => h) (Or.inl ⟨by rfl, fun w hSw => by obtain ⟨s0, s1, s2, s3, s4, s5⟩ := hSw; go_simp⟩) (by assumption) ?_
  simp only [Act.put, List.setIfInBounds_toArray, List.set_cons_zero, List.set_cons_succ]
  refine wpAnyH_take (i := 5) (oi := { dst := some 9, op := Op.nilCheck (Operand.tmp 8), type := 0, pos := "ref.go:47", after := #[{ on := 4, ground := Ground.data }], guard := none }) (v := (.pointer (some ⟨g, 0, none⟩))) rfl (by kernel_rfl) (by kernel_rfl) (by kernel_rfl) (fun _ _ _ h => h) (Or.inl ⟨by rfl, fun w hSw => by obtain ⟨s0, s1, s2, s3, s4, s5⟩ := hSw; go_simp⟩) (by assumption) ?_
  simp only [Act.put, List.setIfInBounds_toArray, List.set_cons_zero, List.set_cons_succ]
  refine wpAnyH_take (i := 6) (oi := { dst := some 10, op := Op.fieldAddr 53 (Operand.tmp 9) 1, type := 0, pos := "ref.go:47", after := #[{ on := 5, ground := Ground.data }], guard := none }) (v := (.pointer (some ⟨g, 1, none⟩))) rfl (by kernel_rfl) (by kernel_rfl) (by kernel_rfl) (fun _ _ _ h => h) (Or.inl ⟨by rfl, fun w hSw => by obtain ⟨s0, s1, s2, s3, s4, s5⟩ := hSw; go_simp⟩) (by assumption) ?_
  simp only [Act.put, List.setIfInBounds_toArray, List.set_cons_zero, List.set_cons_succ]
  refine wpAnyH_take (i := 7) (oi := { dst := some 11, op := Op.load 3 (Operand.tmp 10), type := 3, pos := "ref.go:47", after := #[{ on := 6, ground := Ground.data }], guard := none }) (v := (.int .i64 b)) rfl (by kernel_rfl) (by kernel_rfl) (by kernel_rfl) (fun _ _ _ h => h) (Or.inl ⟨by rfl, fun w hSw => by obtain ⟨s0, s1, s2, s3, s4, s5⟩ := hSw; go_simp⟩) (by assumption) ?_
  simp only [Act.put, List.setIfInBounds_toArray, List.set_cons_zero, List.set_cons_succ]
  refine wpAnyH_take (i := 8) (oi := { dst := some 12, op := Op.move (Operand.tmp 0), type := 27, pos := "ref.go:47", after := #[], guard := none }) (v := (.pointer (some ⟨g, 0, none⟩))) rfl (by kernel_rfl) (by kernel_rfl) (by kernel_rfl) (fun _ _ _ h => h) (Or.inl ⟨by rfl, fun w hSw => by obtain ⟨s0, s1, s2, s3, s4, s5⟩ := hSw; go_simp⟩) (by assumption) ?_
  simp only [Act.put, List.setIfInBounds_toArray, List.set_cons_zero, List.set_cons_succ]
  refine wpAnyH_take (i := 9) (oi := { dst := some 13, op := Op.nilCheck (Operand.tmp 12), type := 0, pos := "ref.go:47", after := #[{ on := 8, ground := Ground.data }], guard := none }) (v := (.pointer (some ⟨g, 0, none⟩))) rfl (by kernel_rfl) (by kernel_rfl) (by kernel_rfl) (fun _ _ _ h => h) (Or.inl ⟨by rfl, fun w hSw => by obtain ⟨s0, s1, s2, s3, s4, s5⟩ := hSw; go_simp⟩) (by assumption) ?_
  simp only [Act.put, List.setIfInBounds_toArray, List.set_cons_zero, List.set_cons_succ]
  refine wpAnyH_take (i := 10) (oi := { dst := some 14, op := Op.fieldAddr 53 (Operand.tmp 13) 2, type := 0, pos := "ref.go:47", after := #[{ on := 9, ground := Ground.data }], guard := none }) (v := (.pointer (some ⟨g, 2, none⟩))) rfl (by kernel_rfl) (by kernel_rfl) (by kernel_rfl) (fun _ _ _ h => h) (Or.inl ⟨by rfl, fun w hSw => by obtain ⟨s0, s1, s2, s3, s4, s5⟩ := hSw; go_simp⟩) (by assumption) ?_
  simp only [Act.put, List.setIfInBounds_toArray, List.set_cons_zero, List.set_cons_succ]
  refine wpAnyH_take (i := 11) (oi := { dst := some 15, op := Op.load 3 (Operand.tmp 14), type := 3, pos := "ref.go:47", after := #[{ on := 10, ground := Ground.data }], guard := none }) (v := (.int .i64 e)) rfl (by kernel_rfl) (by kernel_rfl) (by kernel_rfl) (fun _ _ _ h => h) (Or.inl ⟨by rfl, fun w hSw => by obtain ⟨s0, s1, s2, s3, s4, s5⟩ := hSw; go_simp⟩) (by assumption) ?_
  simp only [Act.put, List.setIfInBounds_toArray, List.set_cons_zero, List.set_cons_succ]
  refine wpAnyH_take (i := 12) (oi := { dst := some 16, op := Op.move (Operand.tmp 0), type := 27, pos := "ref.go:47", after := #[], guard := none }) (v := (.pointer (some ⟨g, 0, none⟩))) rfl (by kernel_rfl) (by kernel_rfl) (by kernel_rfl) (fun _ _ _ h => h) (Or.inl ⟨by rfl, fun w hSw => by obtain ⟨s0, s1, s2, s3, s4, s5⟩ := hSw; go_simp⟩) (by assumption) ?_
  simp only [Act.put, List.setIfInBounds_toArray, List.set_cons_zero, List.set_cons_succ]
  refine wpAnyH_take (i := 13) (oi := { dst := some 17, op := Op.nilCheck (Operand.tmp 16), type := 0, pos := "ref.go:47", after := #[{ on := 12, ground := Ground.data }], guard := none }) (v := (.pointer (some ⟨g, 0, none⟩))) rfl (by kernel_rfl) (by kernel_rfl) (by kernel_rfl) (fun _ _ _ h => h) (Or.inl ⟨by rfl, fun w hSw => by obtain ⟨s0, s1, s2, s3, s4, s5⟩ := hSw; go_simp⟩) (by assumption) ?_
  simp only [Act.put, List.setIfInBounds_toArray, List.set_cons_zero, List.set_cons_succ]
  refine wpAnyH_take (i := 14) (oi := { dst := some 18, op := Op.fieldAddr 53 (Operand.tmp 17) 3, type := 0, pos := "ref.go:47", after := #[{ on := 13, ground := Ground.data }], guard := none }) (v := (.pointer (some ⟨g, 3, none⟩))) rfl (by kernel_rfl) (by kernel_rfl) (by kernel_rfl) (fun _ _ _ h => h) (Or.inl ⟨by rfl, fun w hSw => by obtain ⟨s0, s1, s2, s3, s4, s5⟩ := hSw; go_simp⟩) (by assumption) ?_
  simp only [Act.put, List.setIfInBounds_toArray, List.set_cons_zero, List.set_cons_succ]
  refine wpAnyH_take (i := 15) (oi := { dst := some 19, op := Op.load 3 (Operand.tmp 18), type := 3, pos := "ref.go:47", after := #[{ on := 14, ground := Ground.data }], guard := none }) (v := (.int .i64 v)) rfl (by kernel_rfl) (by kernel_rfl) (by kernel_rfl) (fun _ _ _ h => h) (Or.inl ⟨by rfl, fun w hSw => by obtain ⟨s0, s1, s2, s3, s4, s5⟩ := hSw; go_simp⟩) (by assumption) ?_
  simp only [Act.put, List.setIfInBounds_toArray, List.set_cons_zero, List.set_cons_succ]
  refine wpAnyH_take (i := 16) (oi := { dst := some 20, op := Op.move (Operand.tmp 0), type := 27, pos := "ref.go:47", after := #[], guard := none }) (v := (.pointer (some ⟨g, 0, none⟩))) rfl (by kernel_rfl) (by kernel_rfl) (by kernel_rfl) (fun _ _ _ h => h) (Or.inl ⟨by rfl, fun w hSw => by obtain ⟨s0, s1, s2, s3, s4, s5⟩ := hSw; go_simp⟩) (by assumption) ?_
  simp only [Act.put, List.setIfInBounds_toArray, List.set_cons_zero, List.set_cons_succ]
  refine wpAnyH_take (i := 17) (oi := { dst := some 21, op := Op.nilCheck (Operand.tmp 20), type := 0, pos := "ref.go:47", after := #[{ on := 16, ground := Ground.data }], guard := none }) (v := (.pointer (some ⟨g, 0, none⟩))) rfl (by kernel_rfl) (by kernel_rfl) (by kernel_rfl) (fun _ _ _ h => h) (Or.inl ⟨by rfl, fun w hSw => by obtain ⟨s0, s1, s2, s3, s4, s5⟩ := hSw; go_simp⟩) (by assumption) ?_
  simp only [Act.put, List.setIfInBounds_toArray, List.set_cons_zero, List.set_cons_succ]
  refine wpAnyH_take (i := 18) (oi := { dst := some 22, op := Op.fieldAddr 53 (Operand.tmp 21) 4, type := 0, pos := "ref.go:47", after := #[{ on := 17, ground := Ground.data }], guard := none }) (v := (.pointer (some ⟨g, 4, none⟩))) rfl (by kernel_rfl) (by kernel_rfl) (by kernel_rfl) (fun _ _ _ h => h) (Or.inl ⟨by rfl, fun w hSw => by obtain ⟨s0, s1, s2, s3, s4, s5⟩ := hSw; go_simp⟩) (by assumption) ?_
  simp only [Act.put, List.setIfInBounds_toArray, List.set_cons_zero, List.set_cons_succ]
  refine wpAnyH_take (i := 19) (oi := { dst := some 23, op := Op.load 3 (Operand.tmp 22), type := 3, pos := "ref.go:47", after := #[{ on := 18, ground := Ground.data }], guard := none }) (v := (.int .i64 u)) rfl (by kernel_rfl) (by kernel_rfl) (by kernel_rfl) (fun _ _ _ h => h) (Or.inl ⟨by rfl, fun w hSw => by obtain ⟨s0, s1, s2, s3, s4, s5⟩ := hSw; go_simp⟩) (by assumption) ?_
  simp only [Act.put, List.setIfInBounds_toArray, List.set_cons_zero, List.set_cons_succ]
  refine wpAnyH_take (i := 20) (oi := { dst := some 24, op := Op.move (Operand.tmp 3), type := 29, pos := "ref.go:47", after := #[], guard := none }) (v := (.slice none 0 0)) rfl (by kernel_rfl) (by kernel_rfl) (by kernel_rfl) (fun _ _ _ h => h) (Or.inl ⟨by rfl, fun w hSw => by obtain ⟨s0, s1, s2, s3, s4, s5⟩ := hSw; go_simp⟩) (by assumption) ?_
  simp only [Act.put, List.setIfInBounds_toArray, List.set_cons_zero, List.set_cons_succ]
  refine wpAnyH_take (i := 21) (oi := { dst := some 25, op := Op.move (Operand.tmp 0), type := 27, pos := "ref.go:47", after := #[], guard := none }) (v := (.pointer (some ⟨g, 0, none⟩))) rfl (by kernel_rfl) (by kernel_rfl) (by kernel_rfl) (fun _ _ _ h => h) (Or.inl ⟨by rfl, fun w hSw => by obtain ⟨s0, s1, s2, s3, s4, s5⟩ := hSw; go_simp⟩) (by assumption) ?_
  simp only [Act.put, List.setIfInBounds_toArray, List.set_cons_zero, List.set_cons_succ]
  refine wpAnyH_take (i := 22) (oi := { dst := some 26, op := Op.nilCheck (Operand.tmp 25), type := 0, pos := "ref.go:47", after := #[{ on := 21, ground := Ground.data }], guard := none }) (v := (.pointer (some ⟨g, 0, none⟩))) rfl (by kernel_rfl) (by kernel_rfl) (by kernel_rfl) (fun _ _ _ h => h) (Or.inl ⟨by rfl, fun w hSw => by obtain ⟨s0, s1, s2, s3, s4, s5⟩ := hSw; go_simp⟩) (by assumption) ?_
  simp only [Act.put, List.setIfInBounds_toArray, List.set_cons_zero, List.set_cons_succ]
  refine wpAnyH_take (i := 23) (oi := { dst := some 27, op := Op.fieldAddr 53 (Operand.tmp 26) 5, type := 0, pos := "ref.go:47", after := #[{ on := 22, ground := Ground.data }], guard := none }) (v := (.pointer (some ⟨g, 5, none⟩))) rfl (by kernel_rfl) (by kernel_rfl) (by kernel_rfl) (fun _ _ _ h => h) (Or.inl ⟨by rfl, fun w hSw => by obtain ⟨s0, s1, s2, s3, s4, s5⟩ := hSw; go_simp⟩) (by assumption) ?_
  simp only [Act.put, List.setIfInBounds_toArray, List.set_cons_zero, List.set_cons_succ]
  refine wpAnyH_take (i := 24) (oi := { dst := some 28, op := Op.load 29 (Operand.tmp 27), type := 29, pos := "ref.go:47", after := #[{ on := 23, ground := Ground.data }], guard := none }) (v := (.slice A0 bs.length c0)) rfl (by kernel_rfl) (by kernel_rfl) (by kernel_rfl) (fun _ _ _ h => h) (Or.inl ⟨by rfl, fun w hSw => by obtain ⟨s0, s1, s2, s3, s4, s5⟩ := hSw; go_simp⟩) (by assumption) ?_
  simp only [Act.put, List.setIfInBounds_toArray, List.set_cons_zero, List.set_cons_succ]
  refine wpAnyH_ready (rs := [25]) (by kernel_rfl) (by simp) ?_
  refine AllReadyH.cons (o := { dst := some 29, op := Op.call { callee := Callee.builtin Builtin.append, args := #[Operand.tmp 24, Operand.tmp 28], argTypes := #[29, 29] }, type := 29, pos := "ref.go:47", after := #[{ on := 20, ground := Ground.data }, { on := 24, ground := Ground.data }], guard := none }) rfl (fun K hK => ?_) AllReadyH.nil
  refine Kd.R_append_rows_step k35 (w0 := wa.drew) wa.drew.heap.size (by rfl) (.tmp 24) (.tmp 28) 29 35 (.agg #[.string ⟨#[]⟩, .string ⟨#[]⟩, .int .i64 0]) 40 rfl Tryd.underlying29 (by kernel_rfl) rfl (by decide) (by omega) (.slice none 0 0) [] bs A0 bs.length c0 (fun _ => True) (fun _ => False) rfl rfl (Kd.R_nil _ _ _ _ _) (Kd.C_drew hCC) (fun _ _ h => h) (fun _ h => h.elim) (fun _ _ => trivial) (Below.refl _ _) (Nat.le_refl _) (by simp; omega) ?_
  intro v1 w2 ho1 hb2 hg1 hat1; rw [List.nil_append] at ho1; obtain ⟨A, c1, rfl⟩ := Kd.R_slice ho1; have hm : Made wa.drew w2 A bs := ⟨c1, ho1⟩; have hG2 := (hb2.block g (blk_lt h1.1)).trans h1.1; have hO2 : w2.heap[o]? = some (.cells #[.int .i64 0, .int .i64 0, .int .i64 0, .int .i64 0, .int .i64 0, .int .i64 0, .slice none 0 0] 31 (0, 0)) := (hb2.block o (blk_lt hO)).trans hO; have c0b := (blk_cell hG2 0).trans rfl; have c1b := (blk_cell hG2 1).trans rfl; have c2b := (blk_cell hG2 2).trans rfl; have c3b := (blk_cell hG2 3).trans rfl; have c4b := (blk_cell hG2 4).trans rfl; have c5b := (blk_cell hG2 5).trans rfl
  refine hK.out _ _ ⟨c0b, c1b, c2b, c3b, c4b, c5b⟩ (fun hHeld => ?_)
  clear hK K
  try simp only [Act.put, List.setIfInBounds_toArray, List.set_cons_zero, List.set_cons_succ]
  refine wpAnyH_take (i := 26) (oi := { dst := some 30, op := Op.build 31 #[(0, Operand.const (Value.int IntKind.i64 2)), (1, Operand.tmp 7), (2, Operand.tmp 11), (3, Operand.tmp 15), (4, Operand.tmp 19), (5, Operand.tmp 23), (6, Operand.tmp 29)], type := 31, pos := "ref.go:47", after := #[{ on := 3, ground := Ground.data }, { on := 7, ground := Ground.data }, { on := 11, ground := Ground.data }, { on := 15, ground := Ground.data }, { on := 19, ground := Ground.data }, { on := 25, ground := Ground.data }], guard := none }) (v := (.agg #[.int .i64 2, .int .i64 n, .int .i64 b, .int .i64 e, .int .i64 v, .int .i64 u, .slice A bs.length c1])) rfl (by kernel_rfl) (by kernel_rfl) (by kernel_rfl) (fun _ _ _ h => h) (Or.inl ⟨by rfl, fun w hSw => by obtain ⟨s0, s1, s2, s3, s4, s5⟩ := hSw; go_simp⟩) (by assumption) ?_
  simp only [Act.put, List.setIfInBounds_toArray, List.set_cons_zero, List.set_cons_succ]
  refine wpAnyH_ready (rs := [27]) (by kernel_rfl) (by simp) ?_
  refine AllReadyH.cons (o := { dst := none, op := Op.store 31 (Operand.tmp 2) (Operand.tmp 30), type := 0, pos := "ref.go:47", after := #[{ on := 26, ground := Ground.data }, { on := 25, ground := Ground.chain }, { on := 0, ground := Ground.phase }, { on := 1, ground := Ground.phase }, { on := 2, ground := Ground.phase }, { on := 3, ground := Ground.phase }, { on := 4, ground := Ground.phase }, { on := 5, ground := Ground.phase }, { on := 6, ground := Ground.phase }, { on := 7, ground := Ground.phase }, { on := 8, ground := Ground.phase }, { on := 9, ground := Ground.phase }, { on := 10, ground := Ground.phase }, { on := 11, ground := Ground.phase }, { on := 12, ground := Ground.phase }, { on := 13, ground := Ground.phase }, { on := 14, ground := Ground.phase }, { on := 15, ground := Ground.phase }, { on := 16, ground := Ground.phase }, { on := 17, ground := Ground.phase }, { on := 18, ground := Ground.phase }, { on := 19, ground := Ground.phase }, { on := 20, ground := Ground.phase }, { on := 21, ground := Ground.phase }, { on := 22, ground := Ground.phase }, { on := 23, ground := Ground.phase }, { on := 24, ground := Ground.phase }, { on := 25, ground := Ground.phase }, { on := 26, ground := Ground.phase }], guard := none }) rfl (fun K hK => ?_) AllReadyH.nil
  have o0 := (blk_cell hO2 0).trans rfl; have f0 := blk_frozen hO2 0; have o1 := (blk_cell hO2 1).trans rfl; have f1 := blk_frozen hO2 1; have o2 := (blk_cell hO2 2).trans rfl; have f2 := blk_frozen hO2 2; have o3 := (blk_cell hO2 3).trans rfl; have f3 := blk_frozen hO2 3; have o4 := (blk_cell hO2 4).trans rfl; have f4 := blk_frozen hO2 4; have o5 := (blk_cell hO2 5).trans rfl; have f5 := blk_frozen hO2 5; have o6 := (blk_cell hO2 6).trans rfl; have f6 := blk_frozen hO2 6
  go_simp
  obtain ⟨hO7, hG7⟩ := put7 (.int .i64 2) (.int .i64 n) (.int .i64 b) (.int .i64 e) (.int .i64 v) (.int .i64 u) (.slice A bs.length c1) hO2
  have hGG := blk_grown hG2 hG7 (by simpa using hgo)
  revert hO7 hG7 hGG
  generalize (((((((w2.setCell ⟨o, 0, none⟩ (.int .i64 2)).setCell ⟨o, 1, none⟩ (.int .i64 n)).setCell ⟨o, 2, none⟩ (.int .i64 b)).setCell ⟨o, 3, none⟩ (.int .i64 e)).setCell ⟨o, 4, none⟩ (.int .i64 v)).setCell ⟨o, 5, none⟩ (.int .i64 u)).setCell ⟨o, 6, none⟩ (.slice A bs.length c1)) = w3
  intro hO7 hG7 hGG
  refine hK.out _ _ ⟨(blk_cell hGG 0).trans rfl, (blk_cell hGG 1).trans rfl, (blk_cell hGG 2).trans rfl, (blk_cell hGG 3).trans rfl, (blk_cell hGG 4).trans rfl, (blk_cell hGG 5).trans rfl⟩ (fun hHeld => ?_)
  clear hK K
  try simp only [Act.put, List.setIfInBounds_toArray, List.set_cons_zero, List.set_cons_succ]
  refine wpAnyH_done (by kernel_rfl) ?_ _
  go_wp2_with fail
  obtain ⟨c9, hm1⟩ := hm
  have hwo : w.heap.size = o := hw0
  refine bodyPost_ret (results_cell_row rfl _ _ o 31 _ (0, 0) _ rfl hO7 Tryd.underlying31 rfl (by kernel_rfl)) rfl ⟨A, c1, rfl, (Kd.R_reads' ho1).2.1, ⟨c9, ?_⟩, ?_⟩
  · have h5 := Kd.R_newB hm1 (g := o) (o := .cells #[.int .i64 0, .int .i64 0, .int .i64 0, .int .i64 0, .int .i64 0, .int .i64 0, .slice none 0 0] 31) hO
    exact Kd.R_mono (Kd.R_lower (Kd.R_grown h5 hG7 (fun k hk e => by injection e with e; exact hk.2 e)) HB.size) (fun _ _ => trivial)
  · have hb3 : Below w.heap.size w w2 := Below.trans (HB.drew.mono (Nat.le_of_eq hwo)) ((hb2 : Below wa.drew.heap.size wa.drew w2).mono (by have := HB.size; show w.heap.size ≤ wa.heap.size; omega))
    exact hb3.grown hG7 hb3.size (fun k e => by injection e with e; omega)
end Go.Proofs.YtpgifeoigconbaaDoor.Cl
