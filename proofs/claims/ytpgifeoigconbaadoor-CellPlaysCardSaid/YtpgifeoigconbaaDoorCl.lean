/- slices.Clone, slices.Clip of binds; the cells' memory. -/
import Derived.Test.YtpgifeoigconbaaDoorQx0
import Derived.IntWalk
import Derived.Lib.SliceRun
import Derived.Deep.RegionHeld3
import Derived.Laws.ResultCell
import Derived.Laws.Rows
namespace Go.Proofs.YtpgifeoigconbaaDoor.Cl
set_option linter.unusedVariables false
set_option linter.unusedSimpArgs false
open Go.RowKit Go.Proofs.YtpgifeoigconbaaDoorW.PrintWords Go.Proofs.YtpgifeoigconbaaDoorW.PrintLast Go.Proofs.YtpgifeoigconbaaDoor.Mo Go.Proofs.YtpgifeoigconbaaDoor.Q
variable {ok : Nat → Prop}
attribute [local go_sem] max2_int min2_int max_two min_two max_three min_three max_four min_four
theorem nil_of (A : Option Addr) (bs : List S35) (w : World) (hr : Kd.C k35 w A bs.length bs) (hA : A = none) : bs = [] := by
  subst hA
  apply List.eq_nil_of_length_eq_zero
  rcases Nat.eq_zero_or_pos bs.length with h | h
  · exact h
  · exfalso
    obtain ⟨ad, c, e, _⟩ := Kd.C_get hr z35 0 (by omega) (by omega)
    cases e
theorem clone (A : Option Addr) (c : Nat) (bs : List S35) (w : World) (hr : Kd.C k35 w A bs.length bs) (hl : bs.length ≤ 2000000000000) :
    Calls Tryd.prog 23 #[.slice A bs.length c] w fun e w' => ∃ V, e = .returned V ∧ k35.R 35 w' w.heap.size (fun _ => True) V bs ∧ Below w.heap.size w w' := by
  have q29 : ∀ (w : World) (a : Option Addr) (n c n' c' : Nat), (binOp .eql 29 (.slice a n c) (.slice none n' c')).run Tryd.prog w = .ok (.bool a.isNone) w := fun w a n c n' c' => Lib.run_eql_slice_nil w _ _ a n c n' c' Tryd.underlying29
  cases A with
  | none =>
    obtain rfl := nil_of none bs w hr rfl
    go_enter Tryd.func23, Tryd.ntmps23
    go_wp2_with fail
    go_ret
    exact ⟨_, rfl, Kd.R_nil _ _ _ _ _, Below.refl _ _⟩
  | some ad =>
    have HB := below_alloc (Below.refl w.heap.size w) (.cells #[] 35)
    have HO : k35.R 35 (w.alloc (.cells #[] 35)) w.heap.size (fun _ => True) (.slice (some ⟨w.heap.size, 0, none⟩) 0 0) [] := ⟨fun _ _ => trivial, [], World.ownsRow_made w #[] 0 (Nat.le_refl _) (Nat.zero_le _) rfl, Reps.none _ _⟩
    have hr1 := Kd.C_below hr HB
    go_enter Tryd.func23, Tryd.ntmps23
    go_wp2_with (first | (at_builtin; refine Kd.R_append_rows k35 (w0 := w) w.heap.size rfl (.tmp 5) (.tmp 6) 29 35 (.agg #[.string ⟨#[]⟩, .string ⟨#[]⟩, .int .i64 0]) 40 rfl Tryd.underlying29 (by kernel_rfl) rfl (by decide) (by omega) (.slice (some ⟨w.heap.size, 0, none⟩) 0 0) [] bs _ _ _ (fun _ => True) (fun _ => False) rfl rfl HO ?aR (fun _ _ h => h) (fun _ h => h.elim) (fun _ _ => trivial) HB ?aS ?aL ?_; (case aR => exact hr1); (case aS => exact HB.size); (case aL => simp; omega); intro v1 w1 ho1 hb1 hg1 hat1; rw [List.nil_append] at ho1))
    go_ret
    exact ⟨_, rfl, ho1, hb1⟩
theorem clip (A : Option Addr) (n c : Nat) (w : World) (hnc : n ≤ c) :
    Calls Tryd.prog 33 #[.slice A n c] w fun e w' => e = .returned (.slice A n n) ∧ w = w' := by
  have p1 : (0 : Int) ≤ (n : Int) := by omega
  have p2 : (n : Int) ≤ (c : Int) := by omega
  have e1 : (n : Int).toNat = n := Int.toNat_natCast n
  go_enter Tryd.func33, Tryd.ntmps33
  go_wp2_with fail
  go_ret
  exact ⟨rfl, rfl⟩
/-- a cell's struct at block g (six cells: its number, boot, epoch, version, until, binds); its binds are a row of its own -/
def Ce (ok : Nat → Prop) (t : Nat) (w0 W : World) (g : Nat) (n b e v u : Int) (V : Value) (bs : List S35) : Prop :=
  W.heap[g]? = some (.cells #[.int .i64 n, .int .i64 b, .int .i64 e, .int .i64 v, .int .i64 u, V] t (0, 0)) ∧ w0.heap.size ≤ g ∧ k35.R 35 W w0.heap.size (fun k => k ≠ g ∧ ok k) V bs
/-- binds that were made by a call: a slice A of theirs, of a row that is younger than w -/
def Made (w w' : World) (A : Option Addr) (bs : List S35) : Prop := ∃ c, k35.R 35 w' w.heap.size (fun _ => True) (.slice A bs.length c) bs
theorem all_any (g : Nat) (n b e v u : Int) (V : Value) (bs : List S35) (w0 w : World) (h : Ce ok 51 w0 w g n b e v u V bs) (hl : bs.length ≤ 2000000000000) :
    Calls Tryd.prog 25 #[.pointer (some ⟨g, 0, none⟩)] w fun e w' => ∃ A, e = .returned (.slice A bs.length bs.length) ∧ Made w w' A bs ∧ Below w.heap.size w w' := by
  obtain ⟨hb, hg, hR⟩ := h
  obtain ⟨A, c, rfl⟩ := Kd.R_slice hR
  obtain ⟨_, hcl, hC⟩ := Kd.R_reads' hR
  have h5 := (blk_cell hb 5).trans rfl
  go_enter Tryd.func25, Tryd.ntmps25
  go_wp2_with fail
  refine (clone A c bs w hC hl).mono ?_; rintro e w1 ⟨V, rfl, ho, HB⟩
  obtain ⟨A1, c1, rfl⟩ := Kd.R_slice ho
  have hcl1 := (Kd.R_reads' ho).2.1
  go_wp2_with fail
  refine (clip A1 bs.length c1 w1 hcl1).mono ?_; rintro e w2 ⟨rfl, rfl⟩
  go_wp2_with fail
  go_ret
  exact ⟨A1, rfl, ⟨c1, ho⟩, HB⟩
theorem grownS (W : World) (o j : Nat) (v : Value) : W.grownBy (W.setCell ⟨o, j, none⟩ v) (some o) := ⟨rfl, rfl, rfl, by simp [World.setCell], fun k _ hk => Below.heap_setCell _ _ _ k (fun e => hk (by rw [e]))⟩
theorem put7 {w2 : World} {o t : Nat} {z0 z1 z2 z3 z4 z5 z6 : Value} (a0 a1 a2 a3 a4 a5 a6 : Value) (h : w2.heap[o]? = some (.cells #[z0, z1, z2, z3, z4, z5, z6] t (0, 0))) : (((((((w2.setCell ⟨o, 0, none⟩ a0).setCell ⟨o, 1, none⟩ a1).setCell ⟨o, 2, none⟩ a2).setCell ⟨o, 3, none⟩ a3).setCell ⟨o, 4, none⟩ a4).setCell ⟨o, 5, none⟩ a5).setCell ⟨o, 6, none⟩ a6).heap[o]? = some (.cells #[a0, a1, a2, a3, a4, a5, a6] t (0, 0)) ∧ w2.grownBy (((((((w2.setCell ⟨o, 0, none⟩ a0).setCell ⟨o, 1, none⟩ a1).setCell ⟨o, 2, none⟩ a2).setCell ⟨o, 3, none⟩ a3).setCell ⟨o, 4, none⟩ a4).setCell ⟨o, 5, none⟩ a5).setCell ⟨o, 6, none⟩ a6) (some o) := by
  have h0 : (w2.setCell ⟨o, 0, none⟩ a0).heap[o]? = some (.cells #[a0, z1, z2, z3, z4, z5, z6] t (0, 0)) := blk_put h 0 a0 rfl
  have g0 := grownS w2 o 0 a0
  generalize w2.setCell ⟨o, 0, none⟩ a0 = x0 at *
  have h1 : (x0.setCell ⟨o, 1, none⟩ a1).heap[o]? = some (.cells #[a0, a1, z2, z3, z4, z5, z6] t (0, 0)) := blk_put h0 1 a1 rfl
  have g1 := grownS x0 o 1 a1
  replace g1 := g0.trans g1
  generalize x0.setCell ⟨o, 1, none⟩ a1 = x1 at *
  have h2 : (x1.setCell ⟨o, 2, none⟩ a2).heap[o]? = some (.cells #[a0, a1, a2, z3, z4, z5, z6] t (0, 0)) := blk_put h1 2 a2 rfl
  have g2 := grownS x1 o 2 a2
  replace g2 := g1.trans g2
  generalize x1.setCell ⟨o, 2, none⟩ a2 = x2 at *
  have h3 : (x2.setCell ⟨o, 3, none⟩ a3).heap[o]? = some (.cells #[a0, a1, a2, a3, z4, z5, z6] t (0, 0)) := blk_put h2 3 a3 rfl
  have g3 := grownS x2 o 3 a3
  replace g3 := g2.trans g3
  generalize x2.setCell ⟨o, 3, none⟩ a3 = x3 at *
  have h4 : (x3.setCell ⟨o, 4, none⟩ a4).heap[o]? = some (.cells #[a0, a1, a2, a3, a4, z5, z6] t (0, 0)) := blk_put h3 4 a4 rfl
  have g4 := grownS x3 o 4 a4
  replace g4 := g3.trans g4
  generalize x3.setCell ⟨o, 4, none⟩ a4 = x4 at *
  have h5 : (x4.setCell ⟨o, 5, none⟩ a5).heap[o]? = some (.cells #[a0, a1, a2, a3, a4, a5, z6] t (0, 0)) := blk_put h4 5 a5 rfl
  have g5 := grownS x4 o 5 a5
  replace g5 := g4.trans g5
  generalize x4.setCell ⟨o, 5, none⟩ a5 = x5 at *
  have h6 : (x5.setCell ⟨o, 6, none⟩ a6).heap[o]? = some (.cells #[a0, a1, a2, a3, a4, a5, a6] t (0, 0)) := blk_put h5 6 a6 rfl
  have g6 := grownS x5 o 6 a6
  replace g6 := g5.trans g6
  generalize x5.setCell ⟨o, 6, none⟩ a6 = x6 at *
  exact ⟨h6, g6⟩
set_option maxHeartbeats 4000000 in
theorem report_any (g : Nat) (n b e v u : Int) (V : Value) (bs : List S35) (w0 w : World) (h : Ce ok 51 w0 w g n b e v u V bs) (hl : bs.length ≤ 2000000000000) :
    Calls Tryd.prog 15 #[.pointer (some ⟨g, 0, none⟩)] w fun ee w' => ∃ A, ee = .returned (.agg #[.int .i64 2, .int .i64 n, .int .i64 b, .int .i64 e, .int .i64 v, .int .i64 u, .slice A bs.length bs.length]) ∧ Made w w' A bs ∧ Below w.heap.size w w' := by
  have HB := below_alloc (Below.refl w.heap.size w) (.cells #[.int .i64 0, .int .i64 0, .int .i64 0, .int .i64 0, .int .i64 0, .int .i64 0, .slice none 0 0] 31)
  have hO := heap_alloc_new w (.cells #[.int .i64 0, .int .i64 0, .int .i64 0, .int .i64 0, .int .i64 0, .int .i64 0, .slice none 0 0] 31)
  have h1 : Ce ok 51 w0 (w.alloc (.cells #[.int .i64 0, .int .i64 0, .int .i64 0, .int .i64 0, .int .i64 0, .int .i64 0, .slice none 0 0] 31)) g n b e v u V bs := ⟨(HB.block g (blk_lt h.1)).trans h.1, h.2.1, Kd.R_below h.2.2 HB⟩
  have hgo : g ≠ w.heap.size := by have := blk_lt h.1; omega
  go_enter Tryd.func15, Tryd.ntmps15
  go_wp2_with fail
  revert HB hO h1
  generalize hw0 : w.heap.size = o at *
  generalize w.alloc (.cells #[.int .i64 0, .int .i64 0, .int .i64 0, .int .i64 0, .int .i64 0, .int .i64 0, .slice none 0 0] 31) = wa
  intro HB hO h1
  have c0a := (blk_cell h1.1 0).trans rfl
  have c1a := (blk_cell h1.1 1).trans rfl
  have c2a := (blk_cell h1.1 2).trans rfl
  have c3a := (blk_cell h1.1 3).trans rfl
  have c4a := (blk_cell h1.1 4).trans rfl
  have hgo2 : ∀ j k, (⟨o, j, none⟩ : Addr) ≠ ⟨g, k, none⟩ := by intro j k e; injection e with e; exact hgo e.symm
  refine wp_region_held_drew (S := fun w' => w'.cell? ⟨g, 0, none⟩ = some (.int .i64 n) ∧ w'.cell? ⟨g, 1, none⟩ = some (.int .i64 b) ∧ w'.cell? ⟨g, 2, none⟩ = some (.int .i64 e) ∧ w'.cell? ⟨g, 3, none⟩ = some (.int .i64 v) ∧ w'.cell? ⟨g, 4, none⟩ = some (.int .i64 u)) (by kernel_rfl) ⟨c0a, c1a, c2a, c3a, c4a⟩ (fun hHeld => ?_)
  refine wpAnyH_take (i := 0) (oi := { dst := some 3, op := Op.move (Operand.tmp 0), type := 25, pos := "cell.go:47", after := #[], guard := none }) (v := (.pointer (some ⟨g, 0, none⟩))) rfl (by kernel_rfl) (by kernel_rfl) (by kernel_rfl) (fun _ _ _ h => h) (Or.inl ⟨by rfl, fun w hSw => by obtain ⟨s0, s1, s2, s3, s4⟩ := hSw; go_simp⟩) (by assumption) ?_
  simp only [Act.put, List.setIfInBounds_toArray, List.set_cons_zero, List.set_cons_succ]
  refine wpAnyH_take (i := 1) (oi := { dst := some 4, op := Op.nilCheck (Operand.tmp 3), type := 0, pos := "cell.go:47", after := #[{ on := 0, ground := Ground.data }], guard := none }) (v := (.pointer (some ⟨g, 0, none⟩))) rfl (by kernel_rfl) (by kernel_rfl) (by kernel_rfl) (fun _ _ _ h => h) (Or.inl ⟨by rfl, fun w hSw => by obtain ⟨s0, s1, s2, s3, s4⟩ := hSw; go_simp⟩) (by assumption) ?_
  simp only [Act.put, List.setIfInBounds_toArray, List.set_cons_zero, List.set_cons_succ]
  refine wpAnyH_take (i := 2) (oi := { dst := some 5, op := Op.fieldAddr 51 (Operand.tmp 4) 0, type := 0, pos := "cell.go:47", after := #[{ on := 1, ground := Ground.data }], guard := none }) (v := (.pointer (some ⟨g, 0, none⟩))) rfl (by kernel_rfl) (by kernel_rfl) (by kernel_rfl) (fun _ _ _ h => h) (Or.inl ⟨by rfl, fun w hSw => by obtain ⟨s0, s1, s2, s3, s4⟩ := hSw; go_simp⟩) (by assumption) ?_
  simp only [Act.put, List.setIfInBounds_toArray, List.set_cons_zero, List.set_cons_succ]
  refine wpAnyH_take (i := 3) (oi := { dst := some 6, op := Op.load 3 (Operand.tmp 5), type := 3, pos := "cell.go:47", after := #[{ on := 2, ground := Ground.data }], guard := none }) (v := (.int .i64 n)) rfl (by kernel_rfl) (by kernel_rfl) (by kernel_rfl) (fun _ _ _ h => h) (Or.inl ⟨by rfl, fun w hSw => by obtain ⟨s0, s1, s2, s3, s4⟩ := hSw; go_simp⟩) (by assumption) ?_
  simp only [Act.put, List.setIfInBounds_toArray, List.set_cons_zero, List.set_cons_succ]
  refine wpAnyH_take (i := 4) (oi := { dst := some 7, op := Op.move (Operand.tmp 0), type := 25, pos := "cell.go:47", after := #[], guard := none }) (v := (.pointer (some ⟨g, 0, none⟩))) rfl (by kernel_rfl) (by kernel_rfl) (by kernel_rfl) (fun _ _ _ h => h) (Or.inl ⟨by rfl, fun w hSw => by obtain ⟨s0, s1, s2, s3, s4⟩ := hSw; go_simp⟩) (by assumption) ?_
  simp only [Act.put, List.setIfInBounds_toArray, List.set_cons_zero, List.set_cons_succ]
  refine wpAnyH_take (i := 5) (oi := { dst := some 8, op := Op.nilCheck (Operand.tmp 7), type := 0, pos := "cell.go:47", after := #[{ on := 4, ground := Ground.data }], guard := none }) (v := (.pointer (some ⟨g, 0, none⟩))) rfl (by kernel_rfl) (by kernel_rfl) (by kernel_rfl) (fun _ _ _ h => h) (Or.inl ⟨by rfl, fun w hSw => by obtain ⟨s0, s1, s2, s3, s4⟩ := hSw; go_simp⟩) (by assumption) ?_
  simp only [Act.put, List.setIfInBounds_toArray, List.set_cons_zero, List.set_cons_succ]
  refine wpAnyH_take (i := 6) (oi := { dst := some 9, op := Op.fieldAddr 51 (Operand.tmp 8) 1, type := 0, pos := "cell.go:47", after := #[{ on := 5, ground := Ground.data }], guard := none }) (v := (.pointer (some ⟨g, 1, none⟩))) rfl (by kernel_rfl) (by kernel_rfl) (by kernel_rfl) (fun _ _ _ h => h) (Or.inl ⟨by rfl, fun w hSw => by obtain ⟨s0, s1, s2, s3, s4⟩ := hSw; go_simp⟩) (by assumption) ?_
  simp only [Act.put, List.setIfInBounds_toArray, List.set_cons_zero, List.set_cons_succ]
  refine wpAnyH_take (i := 7) (oi := { dst := some 10, op := Op.load 3 (Operand.tmp 9), type := 3, pos := "cell.go:47", after := #[{ on := 6, ground := Ground.data }], guard := none }) (v := (.int .i64 b)) rfl (by kernel_rfl) (by kernel_rfl) (by kernel_rfl) (fun _ _ _ h => h) (Or.inl ⟨by rfl, fun w hSw => by obtain ⟨s0, s1, s2, s3, s4⟩ := hSw; go_simp⟩) (by assumption) ?_
  simp only [Act.put, List.setIfInBounds_toArray, List.set_cons_zero, List.set_cons_succ]
  refine wpAnyH_take (i := 8) (oi := { dst := some 11, op := Op.move (Operand.tmp 0), type := 25, pos := "cell.go:47", after := #[], guard := none }) (v := (.pointer (some ⟨g, 0, none⟩))) rfl (by kernel_rfl) (by kernel_rfl) (by kernel_rfl) (fun _ _ _ h => h) (Or.inl ⟨by rfl, fun w hSw => by obtain ⟨s0, s1, s2, s3, s4⟩ := hSw; go_simp⟩) (by assumption) ?_
  simp only [Act.put, List.setIfInBounds_toArray, List.set_cons_zero, List.set_cons_succ]
  refine wpAnyH_take (i := 9) (oi := { dst := some 12, op := Op.nilCheck (Operand.tmp 11), type := 0, pos := "cell.go:47", after := #[{ on := 8, ground := Ground.data }], guard := none }) (v := (.pointer (some ⟨g, 0, none⟩))) rfl (by kernel_rfl) (by kernel_rfl) (by kernel_rfl) (fun _ _ _ h => h) (Or.inl ⟨by rfl, fun w hSw => by obtain ⟨s0, s1, s2, s3, s4⟩ := hSw; go_simp⟩) (by assumption) ?_
  simp only [Act.put, List.setIfInBounds_toArray, List.set_cons_zero, List.set_cons_succ]
  refine wpAnyH_take (i := 10) (oi := { dst := some 13, op := Op.fieldAddr 51 (Operand.tmp 12) 2, type := 0, pos := "cell.go:47", after := #[{ on := 9, ground := Ground.data }], guard := none }) (v := (.pointer (some ⟨g, 2, none⟩))) rfl (by kernel_rfl) (by kernel_rfl) (by kernel_rfl) (fun _ _ _ h => h) (Or.inl ⟨by rfl, fun w hSw => by obtain ⟨s0, s1, s2, s3, s4⟩ := hSw; go_simp⟩) (by assumption) ?_
  simp only [Act.put, List.setIfInBounds_toArray, List.set_cons_zero, List.set_cons_succ]
  refine wpAnyH_take (i := 11) (oi := { dst := some 14, op := Op.indexAddr 49 (Operand.tmp 13) (Operand.const (Value.int IntKind.i64 0)), type := 0, pos := "cell.go:47", after := #[{ on := 10, ground := Ground.data }], guard := none }) (v := (.pointer (some ⟨g, 2, none⟩))) rfl (by kernel_rfl) (by kernel_rfl) (by kernel_rfl) (fun _ _ _ h => h) (Or.inl ⟨by rfl, fun w hSw => by obtain ⟨s0, s1, s2, s3, s4⟩ := hSw; go_simp⟩) (by assumption) ?_
  simp only [Act.put, List.setIfInBounds_toArray, List.set_cons_zero, List.set_cons_succ]
  refine wpAnyH_take (i := 12) (oi := { dst := some 15, op := Op.load 3 (Operand.tmp 14), type := 3, pos := "cell.go:47", after := #[{ on := 11, ground := Ground.data }], guard := none }) (v := (.int .i64 e)) rfl (by kernel_rfl) (by kernel_rfl) (by kernel_rfl) (fun _ _ _ h => h) (Or.inl ⟨by rfl, fun w hSw => by obtain ⟨s0, s1, s2, s3, s4⟩ := hSw; go_simp⟩) (by assumption) ?_
  simp only [Act.put, List.setIfInBounds_toArray, List.set_cons_zero, List.set_cons_succ]
  refine wpAnyH_take (i := 13) (oi := { dst := some 16, op := Op.move (Operand.tmp 0), type := 25, pos := "cell.go:47", after := #[], guard := none }) (v := (.pointer (some ⟨g, 0, none⟩))) rfl (by kernel_rfl) (by kernel_rfl) (by kernel_rfl) (fun _ _ _ h => h) (Or.inl ⟨by rfl, fun w hSw => by obtain ⟨s0, s1, s2, s3, s4⟩ := hSw; go_simp⟩) (by assumption) ?_
  simp only [Act.put, List.setIfInBounds_toArray, List.set_cons_zero, List.set_cons_succ]
  refine wpAnyH_take (i := 14) (oi := { dst := some 17, op := Op.nilCheck (Operand.tmp 16), type := 0, pos := "cell.go:47", after := #[{ on := 13, ground := Ground.data }], guard := none }) (v := (.pointer (some ⟨g, 0, none⟩))) rfl (by kernel_rfl) (by kernel_rfl) (by kernel_rfl) (fun _ _ _ h => h) (Or.inl ⟨by rfl, fun w hSw => by obtain ⟨s0, s1, s2, s3, s4⟩ := hSw; go_simp⟩) (by assumption) ?_
  simp only [Act.put, List.setIfInBounds_toArray, List.set_cons_zero, List.set_cons_succ]
  refine wpAnyH_take (i := 15) (oi := { dst := some 18, op := Op.fieldAddr 51 (Operand.tmp 17) 2, type := 0, pos := "cell.go:47", after := #[{ on := 14, ground := Ground.data }], guard := none }) (v := (.pointer (some ⟨g, 2, none⟩))) rfl (by kernel_rfl) (by kernel_rfl) (by kernel_rfl) (fun _ _ _ h => h) (Or.inl ⟨by rfl, fun w hSw => by obtain ⟨s0, s1, s2, s3, s4⟩ := hSw; go_simp⟩) (by assumption) ?_
  simp only [Act.put, List.setIfInBounds_toArray, List.set_cons_zero, List.set_cons_succ]
  refine wpAnyH_take (i := 16) (oi := { dst := some 19, op := Op.indexAddr 49 (Operand.tmp 18) (Operand.const (Value.int IntKind.i64 1)), type := 0, pos := "cell.go:47", after := #[{ on := 15, ground := Ground.data }], guard := none }) (v := (.pointer (some ⟨g, 3, none⟩))) rfl (by kernel_rfl) (by kernel_rfl) (by kernel_rfl) (fun _ _ _ h => h) (Or.inl ⟨by rfl, fun w hSw => by obtain ⟨s0, s1, s2, s3, s4⟩ := hSw; go_simp⟩) (by assumption) ?_
  simp only [Act.put, List.setIfInBounds_toArray, List.set_cons_zero, List.set_cons_succ]
  refine wpAnyH_take (i := 17) (oi := { dst := some 20, op := Op.load 3 (Operand.tmp 19), type := 3, pos := "cell.go:47", after := #[{ on := 16, ground := Ground.data }], guard := none }) (v := (.int .i64 v)) rfl (by kernel_rfl) (by kernel_rfl) (by kernel_rfl) (fun _ _ _ h => h) (Or.inl ⟨by rfl, fun w hSw => by obtain ⟨s0, s1, s2, s3, s4⟩ := hSw; go_simp⟩) (by assumption) ?_
  simp only [Act.put, List.setIfInBounds_toArray, List.set_cons_zero, List.set_cons_succ]
  refine wpAnyH_take (i := 18) (oi := { dst := some 21, op := Op.move (Operand.tmp 0), type := 25, pos := "cell.go:47", after := #[], guard := none }) (v := (.pointer (some ⟨g, 0, none⟩))) rfl (by kernel_rfl) (by kernel_rfl) (by kernel_rfl) (fun _ _ _ h => h) (Or.inl ⟨by rfl, fun w hSw => by obtain ⟨s0, s1, s2, s3, s4⟩ := hSw; go_simp⟩) (by assumption) ?_
  simp only [Act.put, List.setIfInBounds_toArray, List.set_cons_zero, List.set_cons_succ]
  refine wpAnyH_take (i := 19) (oi := { dst := some 22, op := Op.nilCheck (Operand.tmp 21), type := 0, pos := "cell.go:47", after := #[{ on := 18, ground := Ground.data }], guard := none }) (v := (.pointer (some ⟨g, 0, none⟩))) rfl (by kernel_rfl) (by kernel_rfl) (by kernel_rfl) (fun _ _ _ h => h) (Or.inl ⟨by rfl, fun w hSw => by obtain ⟨s0, s1, s2, s3, s4⟩ := hSw; go_simp⟩) (by assumption) ?_
  simp only [Act.put, List.setIfInBounds_toArray, List.set_cons_zero, List.set_cons_succ]
  refine wpAnyH_take (i := 20) (oi := { dst := some 23, op := Op.fieldAddr 51 (Operand.tmp 22) 3, type := 0, pos := "cell.go:47", after := #[{ on := 19, ground := Ground.data }], guard := none }) (v := (.pointer (some ⟨g, 4, none⟩))) rfl (by kernel_rfl) (by kernel_rfl) (by kernel_rfl) (fun _ _ _ h => h) (Or.inl ⟨by rfl, fun w hSw => by obtain ⟨s0, s1, s2, s3, s4⟩ := hSw; go_simp⟩) (by assumption) ?_
  simp only [Act.put, List.setIfInBounds_toArray, List.set_cons_zero, List.set_cons_succ]
  refine wpAnyH_take (i := 21) (oi := { dst := some 24, op := Op.load 3 (Operand.tmp 23), type := 3, pos := "cell.go:47", after := #[{ on := 20, ground := Ground.data }], guard := none }) (v := (.int .i64 u)) rfl (by kernel_rfl) (by kernel_rfl) (by kernel_rfl) (fun _ _ _ h => h) (Or.inl ⟨by rfl, fun w hSw => by obtain ⟨s0, s1, s2, s3, s4⟩ := hSw; go_simp⟩) (by assumption) ?_
  simp only [Act.put, List.setIfInBounds_toArray, List.set_cons_zero, List.set_cons_succ]
  refine wpAnyH_take (i := 22) (oi := { dst := some 25, op := Op.move (Operand.tmp 0), type := 25, pos := "cell.go:47", after := #[], guard := none }) (v := (.pointer (some ⟨g, 0, none⟩))) rfl (by kernel_rfl) (by kernel_rfl) (by kernel_rfl) (fun _ _ _ h => h) (Or.inl ⟨by rfl, fun w hSw => by obtain ⟨s0, s1, s2, s3, s4⟩ := hSw; go_simp⟩) (by assumption) ?_
  simp only [Act.put, List.setIfInBounds_toArray, List.set_cons_zero, List.set_cons_succ]
  refine wpAnyH_ready (rs := [23]) (by kernel_rfl) (by simp) ?_
  refine AllReadyH.cons (o := { dst := some 26, op := Op.call { callee := Callee.value (Operand.func 25), args := #[Operand.tmp 25], argTypes := #[25] }, type := 29, pos := "cell.go:47", after := #[{ on := 22, ground := Ground.data }], guard := none }) rfl (fun K hK => ?_) AllReadyH.nil
  go_simp
  go_at_call 25; refine (all_any g n b e v u V bs w0 wa.drew ⟨h1.1, h1.2.1, Kd.R_drew h1.2.2⟩ hl).mono ?_; rintro ee w2 ⟨A, rfl, hm, hb2⟩; have hG2 : w2.heap[g]? = some (.cells #[.int .i64 n, .int .i64 b, .int .i64 e, .int .i64 v, .int .i64 u, V] 51 (0, 0)) := (hb2.block g (blk_lt h1.1)).trans h1.1; have hO2 : w2.heap[o]? = some (.cells #[.int .i64 0, .int .i64 0, .int .i64 0, .int .i64 0, .int .i64 0, .int .i64 0, .slice none 0 0] 31 (0, 0)) := (hb2.block o (blk_lt hO)).trans hO; have c0b := (blk_cell hG2 0).trans rfl; have c1b := (blk_cell hG2 1).trans rfl; have c2b := (blk_cell hG2 2).trans rfl; have c3b := (blk_cell hG2 3).trans rfl; have c4b := (blk_cell hG2 4).trans rfl
  go_wp2_with fail
  refine hK.out _ _ ⟨c0b, c1b, c2b, c3b, c4b⟩ (fun hHeld => ?_)
  clear hK K
  try simp only [Act.put, List.setIfInBounds_toArray, List.set_cons_zero, List.set_cons_succ]
  refine wpAnyH_take (i := 24) (oi := { dst := some 27, op := Op.build 31 #[(0, Operand.const (Value.int IntKind.i64 2)), (1, Operand.tmp 6), (2, Operand.tmp 10), (3, Operand.tmp 15), (4, Operand.tmp 20), (5, Operand.tmp 24), (6, Operand.tmp 26)], type := 31, pos := "cell.go:47", after := #[{ on := 3, ground := Ground.data }, { on := 7, ground := Ground.data }, { on := 12, ground := Ground.data }, { on := 17, ground := Ground.data }, { on := 21, ground := Ground.data }, { on := 23, ground := Ground.data }], guard := none }) (v := (.agg #[.int .i64 2, .int .i64 n, .int .i64 b, .int .i64 e, .int .i64 v, .int .i64 u, .slice A bs.length bs.length])) rfl (by kernel_rfl) (by kernel_rfl) (by kernel_rfl) (fun _ _ _ h => h) (Or.inl ⟨by rfl, fun w hSw => by obtain ⟨s0, s1, s2, s3, s4⟩ := hSw; go_simp⟩) (by assumption) ?_
  simp only [Act.put, List.setIfInBounds_toArray, List.set_cons_zero, List.set_cons_succ]
  refine wpAnyH_ready (rs := [25]) (by kernel_rfl) (by simp) ?_
  refine AllReadyH.cons (o := { dst := none, op := Op.store 31 (Operand.tmp 2) (Operand.tmp 27), type := 0, pos := "cell.go:47", after := #[{ on := 24, ground := Ground.data }, { on := 23, ground := Ground.chain }, { on := 0, ground := Ground.phase }, { on := 1, ground := Ground.phase }, { on := 2, ground := Ground.phase }, { on := 3, ground := Ground.phase }, { on := 4, ground := Ground.phase }, { on := 5, ground := Ground.phase }, { on := 6, ground := Ground.phase }, { on := 7, ground := Ground.phase }, { on := 8, ground := Ground.phase }, { on := 9, ground := Ground.phase }, { on := 10, ground := Ground.phase }, { on := 11, ground := Ground.phase }, { on := 12, ground := Ground.phase }, { on := 13, ground := Ground.phase }, { on := 14, ground := Ground.phase }, { on := 15, ground := Ground.phase }, { on := 16, ground := Ground.phase }, { on := 17, ground := Ground.phase }, { on := 18, ground := Ground.phase }, { on := 19, ground := Ground.phase }, { on := 20, ground := Ground.phase }, { on := 21, ground := Ground.phase }, { on := 22, ground := Ground.phase }, { on := 23, ground := Ground.phase }, { on := 24, ground := Ground.phase }], guard := none }) rfl (fun K hK => ?_) AllReadyH.nil
  have o0 := (blk_cell hO2 0).trans rfl; have f0 := blk_frozen hO2 0; have o1 := (blk_cell hO2 1).trans rfl; have f1 := blk_frozen hO2 1; have o2 := (blk_cell hO2 2).trans rfl; have f2 := blk_frozen hO2 2; have o3 := (blk_cell hO2 3).trans rfl; have f3 := blk_frozen hO2 3; have o4 := (blk_cell hO2 4).trans rfl; have f4 := blk_frozen hO2 4; have o5 := (blk_cell hO2 5).trans rfl; have f5 := blk_frozen hO2 5; have o6 := (blk_cell hO2 6).trans rfl; have f6 := blk_frozen hO2 6
  go_simp
  obtain ⟨hO7, hG7⟩ := put7 (.int .i64 2) (.int .i64 n) (.int .i64 b) (.int .i64 e) (.int .i64 v) (.int .i64 u) (.slice A bs.length bs.length) hO2
  have hGG := blk_grown hG2 hG7 (by simpa using hgo)
  revert hO7 hG7 hGG
  generalize (((((((w2.setCell ⟨o, 0, none⟩ (.int .i64 2)).setCell ⟨o, 1, none⟩ (.int .i64 n)).setCell ⟨o, 2, none⟩ (.int .i64 b)).setCell ⟨o, 3, none⟩ (.int .i64 e)).setCell ⟨o, 4, none⟩ (.int .i64 v)).setCell ⟨o, 5, none⟩ (.int .i64 u)).setCell ⟨o, 6, none⟩ (.slice A bs.length bs.length)) = w3
  intro hO7 hG7 hGG
  refine hK.out _ _ ⟨(blk_cell hGG 0).trans rfl, (blk_cell hGG 1).trans rfl, (blk_cell hGG 2).trans rfl, (blk_cell hGG 3).trans rfl, (blk_cell hGG 4).trans rfl⟩ (fun hHeld => ?_)
  clear hK K
  try simp only [Act.put, List.setIfInBounds_toArray, List.set_cons_zero, List.set_cons_succ]
  refine wpAnyH_done (by kernel_rfl) ?_ _
  go_wp2_with fail
  obtain ⟨c1, hm1⟩ := hm
  have hwo : w.heap.size = o := hw0
  refine bodyPost_ret (results_cell_row rfl _ _ o 31 _ (0, 0) _ rfl hO7 Tryd.underlying31 rfl (by kernel_rfl)) rfl ⟨A, rfl, ⟨c1, ?_⟩, ?_⟩
  · have h5 := Kd.R_newB hm1 (g := o) (o := .cells #[.int .i64 0, .int .i64 0, .int .i64 0, .int .i64 0, .int .i64 0, .int .i64 0, .slice none 0 0] 31) hO
    exact Kd.R_mono (Kd.R_lower (Kd.R_grown h5 hG7 (fun k hk e => by injection e with e; exact hk.2 e)) HB.size) (fun _ _ => trivial)
  · have hb3 : Below w.heap.size w w2 := Below.trans (HB.drew.mono (Nat.le_of_eq hwo)) ((hb2 : Below wa.drew.heap.size wa.drew w2).mono (by have := HB.size; show w.heap.size ≤ wa.heap.size; omega))
    exact hb3.grown hG7 hb3.size (fun k e => by injection e with e; omega)
end Go.Proofs.YtpgifeoigconbaaDoor.Cl
