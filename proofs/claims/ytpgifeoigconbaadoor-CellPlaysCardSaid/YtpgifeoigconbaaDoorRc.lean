/- A cell: Receive. -/
import Derived.Test.YtpgifeoigconbaaDoorRv
import Derived.Test.YtpgifeoigconbaaDoorRt
namespace Go.Proofs.YtpgifeoigconbaaDoor.Cl
set_option linter.unusedVariables false
set_option linter.unusedSimpArgs false
open Go.RowKit Go.Proofs.YtpgifeoigconbaaDoorW.PrintWords Go.Proofs.YtpgifeoigconbaaDoorW.PrintLast Go.Proofs.YtpgifeoigconbaaDoor.Mo Go.Proofs.YtpgifeoigconbaaDoor.Q
variable {ok : Nat → Prop}
attribute [local go_sem] max2_int min2_int max_two min_two max_three min_three max_four min_four
theorem Ce.below {t : Nat} {w0 W W1 : World} {g : Nat} {n b e v u : Int} {V : Value} {bs : List S35} (h : Ce ok t w0 W g n b e v u V bs) (hb : Below W.heap.size W W1) : Ce ok t w0 W1 g n b e v u V bs := ⟨(hb.block g (blk_lt h.1)).trans h.1, h.2.1, Kd.R_below h.2.2 hb⟩
/-- what a message does to a cell: the block g alone is another one -/
def Does (ok : Nat → Prop) (t : Nat) (w0 w w' : World) (g : Nat) (n b e v u : Int) (bs : List S35) : Prop := (∃ V, Ce ok t w0 w' g n b e v u V bs) ∧ Below w0.heap.size w0 w' ∧ KeepBut w w' g none
theorem done_greet {w0 w w3 : World} {g : Nat} {n b e v u : Int} {V : Value} {bs : List S35} {me mv : Int} (h : Ce ok 51 w0 w g n b e v u V bs) (hB : Below w0.heap.size w0 w) (hG3 : w3.heap[g]? = some (.cells #[.int .i64 n, .int .i64 b, .int .i64 e, .int .i64 v, .int .i64 u, V] 51 (0, 0))) (hb : Below w.heap.size w w3) :
    Does ok 51 w0 w ((w3.setCell ⟨g, 2, none⟩ (.int .i64 me)).setCell ⟨g, 3, none⟩ (.int .i64 mv)).drew.drew g n b me mv u bs := by
  have hge : w0.heap.size ≤ (⟨g, 2, none⟩ : Addr).block := h.2.1
  have hge3 : w0.heap.size ≤ (⟨g, 3, none⟩ : Addr).block := h.2.1
  have hR := Kd.R_below h.2.2 hb
  have h2 := blk_put hG3 2 (.int .i64 me) rfl
  have h3 := blk_put h2 3 (.int .i64 mv) rfl
  refine ⟨⟨V, h3, h.2.1, Kd.R_drew (Kd.R_drew (Kd.R_far (Kd.R_far hR (p := ⟨g, 2, none⟩) (fun k hk => hk.1) _) (p := ⟨g, 3, none⟩) (fun k hk => hk.1) _))⟩, (((hB.trans (hb.mono hB.size)).setCell (p := ⟨g, 2, none⟩) hge _).setCell (p := ⟨g, 3, none⟩) hge3 _).drew.drew, ?_, fun i hi hne _ => ?_⟩
  · have := hb.size
    simpa [World.setCell, World.drew] using this
  · exact (Below.heap_setCell _ ⟨g, 3, none⟩ _ i hne).trans ((Below.heap_setCell _ ⟨g, 2, none⟩ _ i hne).trans (hb.block i hi))
theorem Does.same {t : Nat} {w0 w w1 : World} {g : Nat} {n b e v u : Int} {V : Value} {bs : List S35} (h : Ce ok t w0 w g n b e v u V bs) (hB : Below w0.heap.size w0 w) (hB1 : Below w.heap.size w w1) : Does ok t w0 w w1 g n b e v u bs :=
  ⟨⟨V, Ce.below h hB1⟩, hB.trans (hB1.mono hB.size), ⟨hB1.size, fun i hi _ _ => hB1.block i hi⟩⟩
section
variable (g : Nat) (n b e v u : Int) (V : Value) (bs : List S35) (mk mc mb me mv mu : Int) (A : Option Addr) (c : Nat) (mbs : List S35) (w0 w : World)
set_option maxHeartbeats 4000000 in
theorem recv_wrong (h : Ce ok 51 w0 w g n b e v u V bs) (hB : Below w0.heap.size w0 w) (hC : Kd.C k35 w A mbs.length mbs) (hc : mbs.length ≤ c) (hml : mbs.length ≤ 2000000000000) (hr : Rt.rightS mk mc mb me mv mu mbs = false) :
    Calls Tryd.prog 11 #[.pointer (some ⟨g, 0, none⟩), .agg #[.int .i64 mk, .int .i64 mc, .int .i64 mb, .int .i64 me, .int .i64 mv, .int .i64 mu, .slice A mbs.length c]] w fun ee w' => ee = .returned (.bool false) ∧ Does ok 51 w0 w w' g n b e v u bs := by
  have HBa := below_alloc (Below.refl w.heap.size w) (.cells #[.int .i64 mk, .int .i64 mc, .int .i64 mb, .int .i64 me, .int .i64 mv, .int .i64 mu, .slice A mbs.length c] 31)
  have hO := heap_alloc_new w (.cells #[.int .i64 mk, .int .i64 mc, .int .i64 mb, .int .i64 me, .int .i64 mv, .int .i64 mu, .slice A mbs.length c] 31)
  have h1 := Ce.below h HBa
  have hC1 := Kd.C_below hC HBa
  have hgo : g ≠ w.heap.size := by have := blk_lt h.1; omega
  have hwo := HBa.size
  go_enter Tryd.func11, Tryd.ntmps11
  go_wp2_with fail
  revert HBa hO h1 hC1
  generalize hw0 : w.heap.size = o at *
  generalize w.alloc (.cells #[.int .i64 mk, .int .i64 mc, .int .i64 mb, .int .i64 me, .int .i64 mv, .int .i64 mu, .slice A mbs.length c] 31) = wa at *
  intro HBa hO h1 hC1
  have p0 := (blk_cell hO 0).trans rfl
  have p1 := (blk_cell hO 1).trans rfl
  have p2 := (blk_cell hO 2).trans rfl
  have p3 := (blk_cell hO 3).trans rfl
  have p4 := (blk_cell hO 4).trans rfl
  have p5 := (blk_cell hO 5).trans rfl
  have p6 := (blk_cell hO 6).trans rfl
  have p7 := (blk_cell h1.1 0).trans rfl
  refine wp_region_held_drew (S := fun w' => w'.cell? ⟨o, 0, none⟩ = some (.int .i64 mk) ∧ w'.cell? ⟨o, 1, none⟩ = some (.int .i64 mc) ∧ w'.cell? ⟨o, 2, none⟩ = some (.int .i64 mb) ∧ w'.cell? ⟨o, 3, none⟩ = some (.int .i64 me) ∧ w'.cell? ⟨o, 4, none⟩ = some (.int .i64 mv) ∧ w'.cell? ⟨o, 5, none⟩ = some (.int .i64 mu) ∧ w'.cell? ⟨o, 6, none⟩ = some (.slice A mbs.length c) ∧ w'.cell? ⟨g, 0, none⟩ = some (.int .i64 n)) (by kernel_rfl) ⟨p0, p1, p2, p3, p4, p5, p6, p7⟩ (fun hHeld => ?_)
  refine wpAnyH_take (i := 0) (oi := { dst := some 7, op := Op.load 31 (Operand.tmp 3), type := 31, pos := "cell.go:31", after := #[], guard := none }) (v := (.agg #[.int .i64 mk, .int .i64 mc, .int .i64 mb, .int .i64 me, .int .i64 mv, .int .i64 mu, .slice A mbs.length c])) rfl (by kernel_rfl) (by kernel_rfl) (by kernel_rfl) (fun _ _ _ h => h) (Or.inl ⟨by rfl, fun w hSw => by obtain ⟨s0, s1, s2, s3, s4, s5, s6, s7⟩ := hSw; go_simp⟩) (by assumption) ?_
  simp only [Act.put, List.setIfInBounds_toArray, List.set_cons_zero, List.set_cons_succ]
  refine wpAnyH_ready (rs := [1]) (by kernel_rfl) (by simp) ?_
  refine AllReadyH.cons (o := { dst := some 8, op := Op.call { callee := Callee.value (Operand.func 21), args := #[Operand.tmp 7], argTypes := #[31] }, type := 4, pos := "cell.go:31", after := #[{ on := 0, ground := Ground.data }], guard := none }) rfl (fun K hK => ?_) AllReadyH.nil
  go_simp
  go_at_call 21; refine (msg_Right.calls (mbs.length + 12) mk mc mb me mv mu A c mbs false wa.drew (Kd.C_drew hC1) hc (by rw [Rt.msg_right_eq mbs (by omega), hr])).mono ?_; rintro ee w2 ⟨rfl, hb2⟩; have hb3 : Below wa.heap.size wa w2 := Below.trans (below_drew (Below.refl _ _)) hb2; have hO2 := (hb3.block o (blk_lt hO)).trans hO; have hG2 := (hb3.block g (blk_lt h1.1)).trans h1.1; have hC2 := Kd.C_below hC1 hb3; have q0 := (blk_cell hO2 0).trans rfl; have q1 := (blk_cell hO2 1).trans rfl; have q2 := (blk_cell hO2 2).trans rfl; have q3 := (blk_cell hO2 3).trans rfl; have q4 := (blk_cell hO2 4).trans rfl; have q5 := (blk_cell hO2 5).trans rfl; have q6 := (blk_cell hO2 6).trans rfl; have q7 := (blk_cell hG2 0).trans rfl
  go_wp2_with fail
  refine hK.out _ _ ⟨q0, q1, q2, q3, q4, q5, q6, q7⟩ (fun hHeld => ?_)
  clear hK K
  try simp only [Act.put, List.setIfInBounds_toArray, List.set_cons_zero, List.set_cons_succ]
  refine wpAnyH_take (i := 2) (oi := { dst := some 9, op := Op.unOp UnOp.not 4 (Operand.tmp 8), type := 4, pos := "cell.go:31", after := #[{ on := 1, ground := Ground.data }], guard := none }) (v := (.bool true)) rfl (by kernel_rfl) (by kernel_rfl) (by kernel_rfl) (fun _ _ _ h => h) (Or.inl ⟨by rfl, fun w hSw => by obtain ⟨s0, s1, s2, s3, s4, s5, s6, s7⟩ := hSw; go_simp⟩) (by assumption) ?_
  simp only [Act.put, List.setIfInBounds_toArray, List.set_cons_zero, List.set_cons_succ]
  refine wpAnyH_take (i := 3) (oi := { dst := some 10, op := Op.move (Operand.tmp 9), type := 4, pos := "cell.go:31", after := #[{ on := 2, ground := Ground.data }, { on := 1, ground := Ground.chain }], guard := none }) (v := (.bool true)) rfl (by kernel_rfl) (by kernel_rfl) (by kernel_rfl) (fun _ _ _ h => h) (Or.inl ⟨by rfl, fun w hSw => by obtain ⟨s0, s1, s2, s3, s4, s5, s6, s7⟩ := hSw; go_simp⟩) (by assumption) ?_
  simp only [Act.put, List.setIfInBounds_toArray, List.set_cons_zero, List.set_cons_succ]
  refine wpAnyH_take (i := 4) (oi := { dst := some 11, op := Op.fieldAddr 31 (Operand.tmp 3) 0, type := 0, pos := "cell.go:31", after := #[{ on := 3, ground := Ground.guard }], guard := some (3, false) }) (v := undef) rfl (by kernel_rfl) (by kernel_rfl) (by kernel_rfl) (fun _ _ _ h => h) (Or.inr ⟨by rfl, rfl⟩) (by assumption) ?_
  simp only [Act.put, List.setIfInBounds_toArray, List.set_cons_zero, List.set_cons_succ]
  refine wpAnyH_take (i := 5) (oi := { dst := some 12, op := Op.load 3 (Operand.tmp 11), type := 3, pos := "cell.go:31", after := #[{ on := 4, ground := Ground.data }, { on := 3, ground := Ground.guard }], guard := some (3, false) }) (v := undef) rfl (by kernel_rfl) (by kernel_rfl) (by kernel_rfl) (fun _ _ _ h => h) (Or.inr ⟨by rfl, rfl⟩) (by assumption) ?_
  simp only [Act.put, List.setIfInBounds_toArray, List.set_cons_zero, List.set_cons_succ]
  refine wpAnyH_take (i := 6) (oi := { dst := some 13, op := Op.binOp BinOp.neq 3 (Operand.tmp 12) (Operand.const (Value.int IntKind.i64 1)) 3, type := 4, pos := "cell.go:31", after := #[{ on := 5, ground := Ground.data }, { on := 3, ground := Ground.guard }], guard := some (3, false) }) (v := undef) rfl (by kernel_rfl) (by kernel_rfl) (by kernel_rfl) (fun _ _ _ h => h) (Or.inr ⟨by rfl, rfl⟩) (by assumption) ?_
  simp only [Act.put, List.setIfInBounds_toArray, List.set_cons_zero, List.set_cons_succ]
  refine wpAnyH_take (i := 7) (oi := { dst := some 14, op := Op.pick (Operand.tmp 10) (Operand.const (Value.bool true)) (Operand.tmp 13), type := 4, pos := "cell.go:31", after := #[{ on := 3, ground := Ground.data }, { on := 6, ground := Ground.data }], guard := none }) (v := (.bool true)) rfl (by kernel_rfl) (by kernel_rfl) (by kernel_rfl) (fun _ _ _ h => h) (Or.inl ⟨by rfl, fun w hSw => by obtain ⟨s0, s1, s2, s3, s4, s5, s6, s7⟩ := hSw; go_simp⟩) (by assumption) ?_
  simp only [Act.put, List.setIfInBounds_toArray, List.set_cons_zero, List.set_cons_succ]
  refine wpAnyH_take (i := 8) (oi := { dst := some 15, op := Op.move (Operand.tmp 14), type := 4, pos := "cell.go:31", after := #[{ on := 7, ground := Ground.data }, { on := 3, ground := Ground.chain }], guard := none }) (v := (.bool true)) rfl (by kernel_rfl) (by kernel_rfl) (by kernel_rfl) (fun _ _ _ h => h) (Or.inl ⟨by rfl, fun w hSw => by obtain ⟨s0, s1, s2, s3, s4, s5, s6, s7⟩ := hSw; go_simp⟩) (by assumption) ?_
  simp only [Act.put, List.setIfInBounds_toArray, List.set_cons_zero, List.set_cons_succ]
  refine wpAnyH_take (i := 9) (oi := { dst := some 16, op := Op.fieldAddr 31 (Operand.tmp 3) 1, type := 0, pos := "cell.go:31", after := #[{ on := 8, ground := Ground.guard }], guard := some (8, false) }) (v := undef) rfl (by kernel_rfl) (by kernel_rfl) (by kernel_rfl) (fun _ _ _ h => h) (Or.inr ⟨by rfl, rfl⟩) (by assumption) ?_
  simp only [Act.put, List.setIfInBounds_toArray, List.set_cons_zero, List.set_cons_succ]
  refine wpAnyH_take (i := 10) (oi := { dst := some 17, op := Op.load 3 (Operand.tmp 16), type := 3, pos := "cell.go:31", after := #[{ on := 9, ground := Ground.data }, { on := 8, ground := Ground.guard }], guard := some (8, false) }) (v := undef) rfl (by kernel_rfl) (by kernel_rfl) (by kernel_rfl) (fun _ _ _ h => h) (Or.inr ⟨by rfl, rfl⟩) (by assumption) ?_
  simp only [Act.put, List.setIfInBounds_toArray, List.set_cons_zero, List.set_cons_succ]
  refine wpAnyH_take (i := 11) (oi := { dst := some 18, op := Op.move (Operand.tmp 0), type := 25, pos := "cell.go:31", after := #[{ on := 8, ground := Ground.guard }], guard := some (8, false) }) (v := undef) rfl (by kernel_rfl) (by kernel_rfl) (by kernel_rfl) (fun _ _ _ h => h) (Or.inr ⟨by rfl, rfl⟩) (by assumption) ?_
  simp only [Act.put, List.setIfInBounds_toArray, List.set_cons_zero, List.set_cons_succ]
  refine wpAnyH_take (i := 12) (oi := { dst := some 19, op := Op.nilCheck (Operand.tmp 18), type := 0, pos := "cell.go:31", after := #[{ on := 11, ground := Ground.data }, { on := 8, ground := Ground.guard }], guard := some (8, false) }) (v := undef) rfl (by kernel_rfl) (by kernel_rfl) (by kernel_rfl) (fun _ _ _ h => h) (Or.inr ⟨by rfl, rfl⟩) (by assumption) ?_
  simp only [Act.put, List.setIfInBounds_toArray, List.set_cons_zero, List.set_cons_succ]
  refine wpAnyH_take (i := 13) (oi := { dst := some 20, op := Op.fieldAddr 51 (Operand.tmp 19) 0, type := 0, pos := "cell.go:31", after := #[{ on := 12, ground := Ground.data }, { on := 8, ground := Ground.guard }], guard := some (8, false) }) (v := undef) rfl (by kernel_rfl) (by kernel_rfl) (by kernel_rfl) (fun _ _ _ h => h) (Or.inr ⟨by rfl, rfl⟩) (by assumption) ?_
  simp only [Act.put, List.setIfInBounds_toArray, List.set_cons_zero, List.set_cons_succ]
  refine wpAnyH_take (i := 14) (oi := { dst := some 21, op := Op.load 3 (Operand.tmp 20), type := 3, pos := "cell.go:31", after := #[{ on := 13, ground := Ground.data }, { on := 8, ground := Ground.guard }], guard := some (8, false) }) (v := undef) rfl (by kernel_rfl) (by kernel_rfl) (by kernel_rfl) (fun _ _ _ h => h) (Or.inr ⟨by rfl, rfl⟩) (by assumption) ?_
  simp only [Act.put, List.setIfInBounds_toArray, List.set_cons_zero, List.set_cons_succ]
  refine wpAnyH_take (i := 15) (oi := { dst := some 22, op := Op.binOp BinOp.neq 3 (Operand.tmp 17) (Operand.tmp 21) 3, type := 4, pos := "cell.go:31", after := #[{ on := 10, ground := Ground.data }, { on := 14, ground := Ground.data }, { on := 8, ground := Ground.guard }], guard := some (8, false) }) (v := undef) rfl (by kernel_rfl) (by kernel_rfl) (by kernel_rfl) (fun _ _ _ h => h) (Or.inr ⟨by rfl, rfl⟩) (by assumption) ?_
  simp only [Act.put, List.setIfInBounds_toArray, List.set_cons_zero, List.set_cons_succ]
  refine wpAnyH_take (i := 16) (oi := { dst := some 23, op := Op.pick (Operand.tmp 15) (Operand.const (Value.bool true)) (Operand.tmp 22), type := 4, pos := "cell.go:31", after := #[{ on := 8, ground := Ground.data }, { on := 15, ground := Ground.data }], guard := none }) (v := (.bool true)) rfl (by kernel_rfl) (by kernel_rfl) (by kernel_rfl) (fun _ _ _ h => h) (Or.inl ⟨by rfl, fun w hSw => by obtain ⟨s0, s1, s2, s3, s4, s5, s6, s7⟩ := hSw; go_simp⟩) (by assumption) ?_
  simp only [Act.put, List.setIfInBounds_toArray, List.set_cons_zero, List.set_cons_succ]
  refine wpAnyH_done (by kernel_rfl) ?_ _
  go_wp2_with fail
  go_ret
  subst hw0
  exact ⟨rfl, Does.same h hB (HBa.trans (hb3.mono HBa.size))⟩
set_option maxHeartbeats 4000000 in
theorem recv_kind (h : Ce ok 51 w0 w g n b e v u V bs) (hB : Below w0.heap.size w0 w) (hC : Kd.C k35 w A mbs.length mbs) (hc : mbs.length ≤ c) (hml : mbs.length ≤ 2000000000000) (hr : Rt.rightS mk mc mb me mv mu mbs = true) (hk : mk ≠ 1) :
    Calls Tryd.prog 11 #[.pointer (some ⟨g, 0, none⟩), .agg #[.int .i64 mk, .int .i64 mc, .int .i64 mb, .int .i64 me, .int .i64 mv, .int .i64 mu, .slice A mbs.length c]] w fun ee w' => ee = .returned (.bool false) ∧ Does ok 51 w0 w w' g n b e v u bs := by
  have t1 : (mk != 1) = true := by simpa using hk
  have HBa := below_alloc (Below.refl w.heap.size w) (.cells #[.int .i64 mk, .int .i64 mc, .int .i64 mb, .int .i64 me, .int .i64 mv, .int .i64 mu, .slice A mbs.length c] 31)
  have hO := heap_alloc_new w (.cells #[.int .i64 mk, .int .i64 mc, .int .i64 mb, .int .i64 me, .int .i64 mv, .int .i64 mu, .slice A mbs.length c] 31)
  have h1 := Ce.below h HBa
  have hC1 := Kd.C_below hC HBa
  have hgo : g ≠ w.heap.size := by have := blk_lt h.1; omega
  have hwo := HBa.size
  go_enter Tryd.func11, Tryd.ntmps11
  go_wp2_with fail
  revert HBa hO h1 hC1
  generalize hw0 : w.heap.size = o at *
  generalize w.alloc (.cells #[.int .i64 mk, .int .i64 mc, .int .i64 mb, .int .i64 me, .int .i64 mv, .int .i64 mu, .slice A mbs.length c] 31) = wa at *
  intro HBa hO h1 hC1
  have p0 := (blk_cell hO 0).trans rfl
  have p1 := (blk_cell hO 1).trans rfl
  have p2 := (blk_cell hO 2).trans rfl
  have p3 := (blk_cell hO 3).trans rfl
  have p4 := (blk_cell hO 4).trans rfl
  have p5 := (blk_cell hO 5).trans rfl
  have p6 := (blk_cell hO 6).trans rfl
  have p7 := (blk_cell h1.1 0).trans rfl
  refine wp_region_held_drew (S := fun w' => w'.cell? ⟨o, 0, none⟩ = some (.int .i64 mk) ∧ w'.cell? ⟨o, 1, none⟩ = some (.int .i64 mc) ∧ w'.cell? ⟨o, 2, none⟩ = some (.int .i64 mb) ∧ w'.cell? ⟨o, 3, none⟩ = some (.int .i64 me) ∧ w'.cell? ⟨o, 4, none⟩ = some (.int .i64 mv) ∧ w'.cell? ⟨o, 5, none⟩ = some (.int .i64 mu) ∧ w'.cell? ⟨o, 6, none⟩ = some (.slice A mbs.length c) ∧ w'.cell? ⟨g, 0, none⟩ = some (.int .i64 n)) (by kernel_rfl) ⟨p0, p1, p2, p3, p4, p5, p6, p7⟩ (fun hHeld => ?_)
  refine wpAnyH_take (i := 0) (oi := { dst := some 7, op := Op.load 31 (Operand.tmp 3), type := 31, pos := "cell.go:31", after := #[], guard := none }) (v := (.agg #[.int .i64 mk, .int .i64 mc, .int .i64 mb, .int .i64 me, .int .i64 mv, .int .i64 mu, .slice A mbs.length c])) rfl (by kernel_rfl) (by kernel_rfl) (by kernel_rfl) (fun _ _ _ h => h) (Or.inl ⟨by rfl, fun w hSw => by obtain ⟨s0, s1, s2, s3, s4, s5, s6, s7⟩ := hSw; go_simp⟩) (by assumption) ?_
  simp only [Act.put, List.setIfInBounds_toArray, List.set_cons_zero, List.set_cons_succ]
  refine wpAnyH_ready (rs := [1]) (by kernel_rfl) (by simp) ?_
  refine AllReadyH.cons (o := { dst := some 8, op := Op.call { callee := Callee.value (Operand.func 21), args := #[Operand.tmp 7], argTypes := #[31] }, type := 4, pos := "cell.go:31", after := #[{ on := 0, ground := Ground.data }], guard := none }) rfl (fun K hK => ?_) AllReadyH.nil
  go_simp
  go_at_call 21; refine (msg_Right.calls (mbs.length + 12) mk mc mb me mv mu A c mbs true wa.drew (Kd.C_drew hC1) hc (by rw [Rt.msg_right_eq mbs (by omega), hr])).mono ?_; rintro ee w2 ⟨rfl, hb2⟩; have hb3 : Below wa.heap.size wa w2 := Below.trans (below_drew (Below.refl _ _)) hb2; have hO2 := (hb3.block o (blk_lt hO)).trans hO; have hG2 := (hb3.block g (blk_lt h1.1)).trans h1.1; have hC2 := Kd.C_below hC1 hb3; have q0 := (blk_cell hO2 0).trans rfl; have q1 := (blk_cell hO2 1).trans rfl; have q2 := (blk_cell hO2 2).trans rfl; have q3 := (blk_cell hO2 3).trans rfl; have q4 := (blk_cell hO2 4).trans rfl; have q5 := (blk_cell hO2 5).trans rfl; have q6 := (blk_cell hO2 6).trans rfl; have q7 := (blk_cell hG2 0).trans rfl
  go_wp2_with fail
  refine hK.out _ _ ⟨q0, q1, q2, q3, q4, q5, q6, q7⟩ (fun hHeld => ?_)
  clear hK K
  try simp only [Act.put, List.setIfInBounds_toArray, List.set_cons_zero, List.set_cons_succ]
  refine wpAnyH_take (i := 2) (oi := { dst := some 9, op := Op.unOp UnOp.not 4 (Operand.tmp 8), type := 4, pos := "cell.go:31", after := #[{ on := 1, ground := Ground.data }], guard := none }) (v := (.bool false)) rfl (by kernel_rfl) (by kernel_rfl) (by kernel_rfl) (fun _ _ _ h => h) (Or.inl ⟨by rfl, fun w hSw => by obtain ⟨s0, s1, s2, s3, s4, s5, s6, s7⟩ := hSw; go_simp⟩) (by assumption) ?_
  simp only [Act.put, List.setIfInBounds_toArray, List.set_cons_zero, List.set_cons_succ]
  refine wpAnyH_take (i := 3) (oi := { dst := some 10, op := Op.move (Operand.tmp 9), type := 4, pos := "cell.go:31", after := #[{ on := 2, ground := Ground.data }, { on := 1, ground := Ground.chain }], guard := none }) (v := (.bool false)) rfl (by kernel_rfl) (by kernel_rfl) (by kernel_rfl) (fun _ _ _ h => h) (Or.inl ⟨by rfl, fun w hSw => by obtain ⟨s0, s1, s2, s3, s4, s5, s6, s7⟩ := hSw; go_simp⟩) (by assumption) ?_
  simp only [Act.put, List.setIfInBounds_toArray, List.set_cons_zero, List.set_cons_succ]
  refine wpAnyH_take (i := 4) (oi := { dst := some 11, op := Op.fieldAddr 31 (Operand.tmp 3) 0, type := 0, pos := "cell.go:31", after := #[{ on := 3, ground := Ground.guard }], guard := some (3, false) }) (v := (.pointer (some ⟨o, 0, none⟩))) rfl (by kernel_rfl) (by kernel_rfl) (by kernel_rfl) (fun _ _ _ h => h) (Or.inl ⟨by rfl, fun w hSw => by obtain ⟨s0, s1, s2, s3, s4, s5, s6, s7⟩ := hSw; go_simp⟩) (by assumption) ?_
  simp only [Act.put, List.setIfInBounds_toArray, List.set_cons_zero, List.set_cons_succ]
  refine wpAnyH_take (i := 5) (oi := { dst := some 12, op := Op.load 3 (Operand.tmp 11), type := 3, pos := "cell.go:31", after := #[{ on := 4, ground := Ground.data }, { on := 3, ground := Ground.guard }], guard := some (3, false) }) (v := (.int .i64 mk)) rfl (by kernel_rfl) (by kernel_rfl) (by kernel_rfl) (fun _ _ _ h => h) (Or.inl ⟨by rfl, fun w hSw => by obtain ⟨s0, s1, s2, s3, s4, s5, s6, s7⟩ := hSw; go_simp⟩) (by assumption) ?_
  simp only [Act.put, List.setIfInBounds_toArray, List.set_cons_zero, List.set_cons_succ]
  refine wpAnyH_take (i := 6) (oi := { dst := some 13, op := Op.binOp BinOp.neq 3 (Operand.tmp 12) (Operand.const (Value.int IntKind.i64 1)) 3, type := 4, pos := "cell.go:31", after := #[{ on := 5, ground := Ground.data }, { on := 3, ground := Ground.guard }], guard := some (3, false) }) (v := (.bool true)) rfl (by kernel_rfl) (by kernel_rfl) (by kernel_rfl) (fun _ _ _ h => h) (Or.inl ⟨by rfl, fun w hSw => by obtain ⟨s0, s1, s2, s3, s4, s5, s6, s7⟩ := hSw; go_simp⟩) (by assumption) ?_
  simp only [Act.put, List.setIfInBounds_toArray, List.set_cons_zero, List.set_cons_succ]
  refine wpAnyH_take (i := 7) (oi := { dst := some 14, op := Op.pick (Operand.tmp 10) (Operand.const (Value.bool true)) (Operand.tmp 13), type := 4, pos := "cell.go:31", after := #[{ on := 3, ground := Ground.data }, { on := 6, ground := Ground.data }], guard := none }) (v := (.bool true)) rfl (by kernel_rfl) (by kernel_rfl) (by kernel_rfl) (fun _ _ _ h => h) (Or.inl ⟨by rfl, fun w hSw => by obtain ⟨s0, s1, s2, s3, s4, s5, s6, s7⟩ := hSw; go_simp⟩) (by assumption) ?_
  simp only [Act.put, List.setIfInBounds_toArray, List.set_cons_zero, List.set_cons_succ]
  refine wpAnyH_take (i := 8) (oi := { dst := some 15, op := Op.move (Operand.tmp 14), type := 4, pos := "cell.go:31", after := #[{ on := 7, ground := Ground.data }, { on := 3, ground := Ground.chain }], guard := none }) (v := (.bool true)) rfl (by kernel_rfl) (by kernel_rfl) (by kernel_rfl) (fun _ _ _ h => h) (Or.inl ⟨by rfl, fun w hSw => by obtain ⟨s0, s1, s2, s3, s4, s5, s6, s7⟩ := hSw; go_simp⟩) (by assumption) ?_
  simp only [Act.put, List.setIfInBounds_toArray, List.set_cons_zero, List.set_cons_succ]
  refine wpAnyH_take (i := 9) (oi := { dst := some 16, op := Op.fieldAddr 31 (Operand.tmp 3) 1, type := 0, pos := "cell.go:31", after := #[{ on := 8, ground := Ground.guard }], guard := some (8, false) }) (v := undef) rfl (by kernel_rfl) (by kernel_rfl) (by kernel_rfl) (fun _ _ _ h => h) (Or.inr ⟨by rfl, rfl⟩) (by assumption) ?_
  simp only [Act.put, List.setIfInBounds_toArray, List.set_cons_zero, List.set_cons_succ]
  refine wpAnyH_take (i := 10) (oi := { dst := some 17, op := Op.load 3 (Operand.tmp 16), type := 3, pos := "cell.go:31", after := #[{ on := 9, ground := Ground.data }, { on := 8, ground := Ground.guard }], guard := some (8, false) }) (v := undef) rfl (by kernel_rfl) (by kernel_rfl) (by kernel_rfl) (fun _ _ _ h => h) (Or.inr ⟨by rfl, rfl⟩) (by assumption) ?_
  simp only [Act.put, List.setIfInBounds_toArray, List.set_cons_zero, List.set_cons_succ]
  refine wpAnyH_take (i := 11) (oi := { dst := some 18, op := Op.move (Operand.tmp 0), type := 25, pos := "cell.go:31", after := #[{ on := 8, ground := Ground.guard }], guard := some (8, false) }) (v := undef) rfl (by kernel_rfl) (by kernel_rfl) (by kernel_rfl) (fun _ _ _ h => h) (Or.inr ⟨by rfl, rfl⟩) (by assumption) ?_
  simp only [Act.put, List.setIfInBounds_toArray, List.set_cons_zero, List.set_cons_succ]
  refine wpAnyH_take (i := 12) (oi := { dst := some 19, op := Op.nilCheck (Operand.tmp 18), type := 0, pos := "cell.go:31", after := #[{ on := 11, ground := Ground.data }, { on := 8, ground := Ground.guard }], guard := some (8, false) }) (v := undef) rfl (by kernel_rfl) (by kernel_rfl) (by kernel_rfl) (fun _ _ _ h => h) (Or.inr ⟨by rfl, rfl⟩) (by assumption) ?_
  simp only [Act.put, List.setIfInBounds_toArray, List.set_cons_zero, List.set_cons_succ]
  refine wpAnyH_take (i := 13) (oi := { dst := some 20, op := Op.fieldAddr 51 (Operand.tmp 19) 0, type := 0, pos := "cell.go:31", after := #[{ on := 12, ground := Ground.data }, { on := 8, ground := Ground.guard }], guard := some (8, false) }) (v := undef) rfl (by kernel_rfl) (by kernel_rfl) (by kernel_rfl) (fun _ _ _ h => h) (Or.inr ⟨by rfl, rfl⟩) (by assumption) ?_
  simp only [Act.put, List.setIfInBounds_toArray, List.set_cons_zero, List.set_cons_succ]
  refine wpAnyH_take (i := 14) (oi := { dst := some 21, op := Op.load 3 (Operand.tmp 20), type := 3, pos := "cell.go:31", after := #[{ on := 13, ground := Ground.data }, { on := 8, ground := Ground.guard }], guard := some (8, false) }) (v := undef) rfl (by kernel_rfl) (by kernel_rfl) (by kernel_rfl) (fun _ _ _ h => h) (Or.inr ⟨by rfl, rfl⟩) (by assumption) ?_
  simp only [Act.put, List.setIfInBounds_toArray, List.set_cons_zero, List.set_cons_succ]
  refine wpAnyH_take (i := 15) (oi := { dst := some 22, op := Op.binOp BinOp.neq 3 (Operand.tmp 17) (Operand.tmp 21) 3, type := 4, pos := "cell.go:31", after := #[{ on := 10, ground := Ground.data }, { on := 14, ground := Ground.data }, { on := 8, ground := Ground.guard }], guard := some (8, false) }) (v := undef) rfl (by kernel_rfl) (by kernel_rfl) (by kernel_rfl) (fun _ _ _ h => h) (Or.inr ⟨by rfl, rfl⟩) (by assumption) ?_
  simp only [Act.put, List.setIfInBounds_toArray, List.set_cons_zero, List.set_cons_succ]
  refine wpAnyH_take (i := 16) (oi := { dst := some 23, op := Op.pick (Operand.tmp 15) (Operand.const (Value.bool true)) (Operand.tmp 22), type := 4, pos := "cell.go:31", after := #[{ on := 8, ground := Ground.data }, { on := 15, ground := Ground.data }], guard := none }) (v := (.bool true)) rfl (by kernel_rfl) (by kernel_rfl) (by kernel_rfl) (fun _ _ _ h => h) (Or.inl ⟨by rfl, fun w hSw => by obtain ⟨s0, s1, s2, s3, s4, s5, s6, s7⟩ := hSw; go_simp⟩) (by assumption) ?_
  simp only [Act.put, List.setIfInBounds_toArray, List.set_cons_zero, List.set_cons_succ]
  refine wpAnyH_done (by kernel_rfl) ?_ _
  go_wp2_with fail
  go_ret
  subst hw0
  exact ⟨rfl, Does.same h hB (HBa.trans (hb3.mono HBa.size))⟩
set_option maxHeartbeats 4000000 in
theorem recv_cell (h : Ce ok 51 w0 w g n b e v u V bs) (hB : Below w0.heap.size w0 w) (hC : Kd.C k35 w A mbs.length mbs) (hc : mbs.length ≤ c) (hml : mbs.length ≤ 2000000000000) (hr : Rt.rightS mk mc mb me mv mu mbs = true) (hk : mk = 1) (hn : mc ≠ n) :
    Calls Tryd.prog 11 #[.pointer (some ⟨g, 0, none⟩), .agg #[.int .i64 mk, .int .i64 mc, .int .i64 mb, .int .i64 me, .int .i64 mv, .int .i64 mu, .slice A mbs.length c]] w fun ee w' => ee = .returned (.bool false) ∧ Does ok 51 w0 w w' g n b e v u bs := by
  have t1 : (mk != 1) = false := by simp [hk]
  clear hk
  have t2 : (mc != n) = true := by simpa using hn
  have HBa := below_alloc (Below.refl w.heap.size w) (.cells #[.int .i64 mk, .int .i64 mc, .int .i64 mb, .int .i64 me, .int .i64 mv, .int .i64 mu, .slice A mbs.length c] 31)
  have hO := heap_alloc_new w (.cells #[.int .i64 mk, .int .i64 mc, .int .i64 mb, .int .i64 me, .int .i64 mv, .int .i64 mu, .slice A mbs.length c] 31)
  have h1 := Ce.below h HBa
  have hC1 := Kd.C_below hC HBa
  have hgo : g ≠ w.heap.size := by have := blk_lt h.1; omega
  have hwo := HBa.size
  go_enter Tryd.func11, Tryd.ntmps11
  go_wp2_with fail
  revert HBa hO h1 hC1
  generalize hw0 : w.heap.size = o at *
  generalize w.alloc (.cells #[.int .i64 mk, .int .i64 mc, .int .i64 mb, .int .i64 me, .int .i64 mv, .int .i64 mu, .slice A mbs.length c] 31) = wa at *
  intro HBa hO h1 hC1
  have p0 := (blk_cell hO 0).trans rfl
  have p1 := (blk_cell hO 1).trans rfl
  have p2 := (blk_cell hO 2).trans rfl
  have p3 := (blk_cell hO 3).trans rfl
  have p4 := (blk_cell hO 4).trans rfl
  have p5 := (blk_cell hO 5).trans rfl
  have p6 := (blk_cell hO 6).trans rfl
  have p7 := (blk_cell h1.1 0).trans rfl
  refine wp_region_held_drew (S := fun w' => w'.cell? ⟨o, 0, none⟩ = some (.int .i64 mk) ∧ w'.cell? ⟨o, 1, none⟩ = some (.int .i64 mc) ∧ w'.cell? ⟨o, 2, none⟩ = some (.int .i64 mb) ∧ w'.cell? ⟨o, 3, none⟩ = some (.int .i64 me) ∧ w'.cell? ⟨o, 4, none⟩ = some (.int .i64 mv) ∧ w'.cell? ⟨o, 5, none⟩ = some (.int .i64 mu) ∧ w'.cell? ⟨o, 6, none⟩ = some (.slice A mbs.length c) ∧ w'.cell? ⟨g, 0, none⟩ = some (.int .i64 n)) (by kernel_rfl) ⟨p0, p1, p2, p3, p4, p5, p6, p7⟩ (fun hHeld => ?_)
  refine wpAnyH_take (i := 0) (oi := { dst := some 7, op := Op.load 31 (Operand.tmp 3), type := 31, pos := "cell.go:31", after := #[], guard := none }) (v := (.agg #[.int .i64 mk, .int .i64 mc, .int .i64 mb, .int .i64 me, .int .i64 mv, .int .i64 mu, .slice A mbs.length c])) rfl (by kernel_rfl) (by kernel_rfl) (by kernel_rfl) (fun _ _ _ h => h) (Or.inl ⟨by rfl, fun w hSw => by obtain ⟨s0, s1, s2, s3, s4, s5, s6, s7⟩ := hSw; go_simp⟩) (by assumption) ?_
  simp only [Act.put, List.setIfInBounds_toArray, List.set_cons_zero, List.set_cons_succ]
  refine wpAnyH_ready (rs := [1]) (by kernel_rfl) (by simp) ?_
  refine AllReadyH.cons (o := { dst := some 8, op := Op.call { callee := Callee.value (Operand.func 21), args := #[Operand.tmp 7], argTypes := #[31] }, type := 4, pos := "cell.go:31", after := #[{ on := 0, ground := Ground.data }], guard := none }) rfl (fun K hK => ?_) AllReadyH.nil
  go_simp
  go_at_call 21; refine (msg_Right.calls (mbs.length + 12) mk mc mb me mv mu A c mbs true wa.drew (Kd.C_drew hC1) hc (by rw [Rt.msg_right_eq mbs (by omega), hr])).mono ?_; rintro ee w2 ⟨rfl, hb2⟩; have hb3 : Below wa.heap.size wa w2 := Below.trans (below_drew (Below.refl _ _)) hb2; have hO2 := (hb3.block o (blk_lt hO)).trans hO; have hG2 := (hb3.block g (blk_lt h1.1)).trans h1.1; have hC2 := Kd.C_below hC1 hb3; have q0 := (blk_cell hO2 0).trans rfl; have q1 := (blk_cell hO2 1).trans rfl; have q2 := (blk_cell hO2 2).trans rfl; have q3 := (blk_cell hO2 3).trans rfl; have q4 := (blk_cell hO2 4).trans rfl; have q5 := (blk_cell hO2 5).trans rfl; have q6 := (blk_cell hO2 6).trans rfl; have q7 := (blk_cell hG2 0).trans rfl
  go_wp2_with fail
  refine hK.out _ _ ⟨q0, q1, q2, q3, q4, q5, q6, q7⟩ (fun hHeld => ?_)
  clear hK K
  try simp only [Act.put, List.setIfInBounds_toArray, List.set_cons_zero, List.set_cons_succ]
  refine wpAnyH_take (i := 2) (oi := { dst := some 9, op := Op.unOp UnOp.not 4 (Operand.tmp 8), type := 4, pos := "cell.go:31", after := #[{ on := 1, ground := Ground.data }], guard := none }) (v := (.bool false)) rfl (by kernel_rfl) (by kernel_rfl) (by kernel_rfl) (fun _ _ _ h => h) (Or.inl ⟨by rfl, fun w hSw => by obtain ⟨s0, s1, s2, s3, s4, s5, s6, s7⟩ := hSw; go_simp⟩) (by assumption) ?_
  simp only [Act.put, List.setIfInBounds_toArray, List.set_cons_zero, List.set_cons_succ]
  refine wpAnyH_take (i := 3) (oi := { dst := some 10, op := Op.move (Operand.tmp 9), type := 4, pos := "cell.go:31", after := #[{ on := 2, ground := Ground.data }, { on := 1, ground := Ground.chain }], guard := none }) (v := (.bool false)) rfl (by kernel_rfl) (by kernel_rfl) (by kernel_rfl) (fun _ _ _ h => h) (Or.inl ⟨by rfl, fun w hSw => by obtain ⟨s0, s1, s2, s3, s4, s5, s6, s7⟩ := hSw; go_simp⟩) (by assumption) ?_
  simp only [Act.put, List.setIfInBounds_toArray, List.set_cons_zero, List.set_cons_succ]
  refine wpAnyH_take (i := 4) (oi := { dst := some 11, op := Op.fieldAddr 31 (Operand.tmp 3) 0, type := 0, pos := "cell.go:31", after := #[{ on := 3, ground := Ground.guard }], guard := some (3, false) }) (v := (.pointer (some ⟨o, 0, none⟩))) rfl (by kernel_rfl) (by kernel_rfl) (by kernel_rfl) (fun _ _ _ h => h) (Or.inl ⟨by rfl, fun w hSw => by obtain ⟨s0, s1, s2, s3, s4, s5, s6, s7⟩ := hSw; go_simp⟩) (by assumption) ?_
  simp only [Act.put, List.setIfInBounds_toArray, List.set_cons_zero, List.set_cons_succ]
  refine wpAnyH_take (i := 5) (oi := { dst := some 12, op := Op.load 3 (Operand.tmp 11), type := 3, pos := "cell.go:31", after := #[{ on := 4, ground := Ground.data }, { on := 3, ground := Ground.guard }], guard := some (3, false) }) (v := (.int .i64 mk)) rfl (by kernel_rfl) (by kernel_rfl) (by kernel_rfl) (fun _ _ _ h => h) (Or.inl ⟨by rfl, fun w hSw => by obtain ⟨s0, s1, s2, s3, s4, s5, s6, s7⟩ := hSw; go_simp⟩) (by assumption) ?_
  simp only [Act.put, List.setIfInBounds_toArray, List.set_cons_zero, List.set_cons_succ]
  refine wpAnyH_take (i := 6) (oi := { dst := some 13, op := Op.binOp BinOp.neq 3 (Operand.tmp 12) (Operand.const (Value.int IntKind.i64 1)) 3, type := 4, pos := "cell.go:31", after := #[{ on := 5, ground := Ground.data }, { on := 3, ground := Ground.guard }], guard := some (3, false) }) (v := (.bool false)) rfl (by kernel_rfl) (by kernel_rfl) (by kernel_rfl) (fun _ _ _ h => h) (Or.inl ⟨by rfl, fun w hSw => by obtain ⟨s0, s1, s2, s3, s4, s5, s6, s7⟩ := hSw; go_simp⟩) (by assumption) ?_
  simp only [Act.put, List.setIfInBounds_toArray, List.set_cons_zero, List.set_cons_succ]
  refine wpAnyH_take (i := 7) (oi := { dst := some 14, op := Op.pick (Operand.tmp 10) (Operand.const (Value.bool true)) (Operand.tmp 13), type := 4, pos := "cell.go:31", after := #[{ on := 3, ground := Ground.data }, { on := 6, ground := Ground.data }], guard := none }) (v := (.bool false)) rfl (by kernel_rfl) (by kernel_rfl) (by kernel_rfl) (fun _ _ _ h => h) (Or.inl ⟨by rfl, fun w hSw => by obtain ⟨s0, s1, s2, s3, s4, s5, s6, s7⟩ := hSw; go_simp⟩) (by assumption) ?_
  simp only [Act.put, List.setIfInBounds_toArray, List.set_cons_zero, List.set_cons_succ]
  refine wpAnyH_take (i := 8) (oi := { dst := some 15, op := Op.move (Operand.tmp 14), type := 4, pos := "cell.go:31", after := #[{ on := 7, ground := Ground.data }, { on := 3, ground := Ground.chain }], guard := none }) (v := (.bool false)) rfl (by kernel_rfl) (by kernel_rfl) (by kernel_rfl) (fun _ _ _ h => h) (Or.inl ⟨by rfl, fun w hSw => by obtain ⟨s0, s1, s2, s3, s4, s5, s6, s7⟩ := hSw; go_simp⟩) (by assumption) ?_
  simp only [Act.put, List.setIfInBounds_toArray, List.set_cons_zero, List.set_cons_succ]
  refine wpAnyH_take (i := 9) (oi := { dst := some 16, op := Op.fieldAddr 31 (Operand.tmp 3) 1, type := 0, pos := "cell.go:31", after := #[{ on := 8, ground := Ground.guard }], guard := some (8, false) }) (v := (.pointer (some ⟨o, 1, none⟩))) rfl (by kernel_rfl) (by kernel_rfl) (by kernel_rfl) (fun _ _ _ h => h) (Or.inl ⟨by rfl, fun w hSw => by obtain ⟨s0, s1, s2, s3, s4, s5, s6, s7⟩ := hSw; go_simp⟩) (by assumption) ?_
  simp only [Act.put, List.setIfInBounds_toArray, List.set_cons_zero, List.set_cons_succ]
  refine wpAnyH_take (i := 10) (oi := { dst := some 17, op := Op.load 3 (Operand.tmp 16), type := 3, pos := "cell.go:31", after := #[{ on := 9, ground := Ground.data }, { on := 8, ground := Ground.guard }], guard := some (8, false) }) (v := (.int .i64 mc)) rfl (by kernel_rfl) (by kernel_rfl) (by kernel_rfl) (fun _ _ _ h => h) (Or.inl ⟨by rfl, fun w hSw => by obtain ⟨s0, s1, s2, s3, s4, s5, s6, s7⟩ := hSw; go_simp⟩) (by assumption) ?_
  simp only [Act.put, List.setIfInBounds_toArray, List.set_cons_zero, List.set_cons_succ]
  refine wpAnyH_take (i := 11) (oi := { dst := some 18, op := Op.move (Operand.tmp 0), type := 25, pos := "cell.go:31", after := #[{ on := 8, ground := Ground.guard }], guard := some (8, false) }) (v := (.pointer (some ⟨g, 0, none⟩))) rfl (by kernel_rfl) (by kernel_rfl) (by kernel_rfl) (fun _ _ _ h => h) (Or.inl ⟨by rfl, fun w hSw => by obtain ⟨s0, s1, s2, s3, s4, s5, s6, s7⟩ := hSw; go_simp⟩) (by assumption) ?_
  simp only [Act.put, List.setIfInBounds_toArray, List.set_cons_zero, List.set_cons_succ]
  refine wpAnyH_take (i := 12) (oi := { dst := some 19, op := Op.nilCheck (Operand.tmp 18), type := 0, pos := "cell.go:31", after := #[{ on := 11, ground := Ground.data }, { on := 8, ground := Ground.guard }], guard := some (8, false) }) (v := (.pointer (some ⟨g, 0, none⟩))) rfl (by kernel_rfl) (by kernel_rfl) (by kernel_rfl) (fun _ _ _ h => h) (Or.inl ⟨by rfl, fun w hSw => by obtain ⟨s0, s1, s2, s3, s4, s5, s6, s7⟩ := hSw; go_simp⟩) (by assumption) ?_
  simp only [Act.put, List.setIfInBounds_toArray, List.set_cons_zero, List.set_cons_succ]
  refine wpAnyH_take (i := 13) (oi := { dst := some 20, op := Op.fieldAddr 51 (Operand.tmp 19) 0, type := 0, pos := "cell.go:31", after := #[{ on := 12, ground := Ground.data }, { on := 8, ground := Ground.guard }], guard := some (8, false) }) (v := (.pointer (some ⟨g, 0, none⟩))) rfl (by kernel_rfl) (by kernel_rfl) (by kernel_rfl) (fun _ _ _ h => h) (Or.inl ⟨by rfl, fun w hSw => by obtain ⟨s0, s1, s2, s3, s4, s5, s6, s7⟩ := hSw; go_simp⟩) (by assumption) ?_
  simp only [Act.put, List.setIfInBounds_toArray, List.set_cons_zero, List.set_cons_succ]
  refine wpAnyH_take (i := 14) (oi := { dst := some 21, op := Op.load 3 (Operand.tmp 20), type := 3, pos := "cell.go:31", after := #[{ on := 13, ground := Ground.data }, { on := 8, ground := Ground.guard }], guard := some (8, false) }) (v := (.int .i64 n)) rfl (by kernel_rfl) (by kernel_rfl) (by kernel_rfl) (fun _ _ _ h => h) (Or.inl ⟨by rfl, fun w hSw => by obtain ⟨s0, s1, s2, s3, s4, s5, s6, s7⟩ := hSw; go_simp⟩) (by assumption) ?_
  simp only [Act.put, List.setIfInBounds_toArray, List.set_cons_zero, List.set_cons_succ]
  refine wpAnyH_take (i := 15) (oi := { dst := some 22, op := Op.binOp BinOp.neq 3 (Operand.tmp 17) (Operand.tmp 21) 3, type := 4, pos := "cell.go:31", after := #[{ on := 10, ground := Ground.data }, { on := 14, ground := Ground.data }, { on := 8, ground := Ground.guard }], guard := some (8, false) }) (v := (.bool true)) rfl (by kernel_rfl) (by kernel_rfl) (by kernel_rfl) (fun _ _ _ h => h) (Or.inl ⟨by rfl, fun w hSw => by obtain ⟨s0, s1, s2, s3, s4, s5, s6, s7⟩ := hSw; go_simp⟩) (by assumption) ?_
  simp only [Act.put, List.setIfInBounds_toArray, List.set_cons_zero, List.set_cons_succ]
  refine wpAnyH_take (i := 16) (oi := { dst := some 23, op := Op.pick (Operand.tmp 15) (Operand.const (Value.bool true)) (Operand.tmp 22), type := 4, pos := "cell.go:31", after := #[{ on := 8, ground := Ground.data }, { on := 15, ground := Ground.data }], guard := none }) (v := (.bool true)) rfl (by kernel_rfl) (by kernel_rfl) (by kernel_rfl) (fun _ _ _ h => h) (Or.inl ⟨by rfl, fun w hSw => by obtain ⟨s0, s1, s2, s3, s4, s5, s6, s7⟩ := hSw; go_simp⟩) (by assumption) ?_
  simp only [Act.put, List.setIfInBounds_toArray, List.set_cons_zero, List.set_cons_succ]
  refine wpAnyH_done (by kernel_rfl) ?_ _
  go_wp2_with fail
  go_ret
  subst hw0
  exact ⟨rfl, Does.same h hB (HBa.trans (hb3.mono HBa.size))⟩
set_option maxHeartbeats 4000000 in
theorem recv_old (h : Ce ok 51 w0 w g n b e v u V bs) (hB : Below w0.heap.size w0 w) (hC : Kd.C k35 w A mbs.length mbs) (hc : mbs.length ≤ c) (hml : mbs.length ≤ 2000000000000) (hr : Rt.rightS mk mc mb me mv mu mbs = true) (hk : mk = 1) (hn : mc = n) (hz : mv = 0) (ho : ¬ e < me) :
    Calls Tryd.prog 11 #[.pointer (some ⟨g, 0, none⟩), .agg #[.int .i64 mk, .int .i64 mc, .int .i64 mb, .int .i64 me, .int .i64 mv, .int .i64 mu, .slice A mbs.length c]] w fun ee w' => ee = .returned (.bool false) ∧ Does ok 51 w0 w w' g n b e v u bs := by
  have t1 : (mk != 1) = false := by simp [hk]
  have t2 : (mc != n) = false := by simp [hn]
  clear hk hn
  have t3 : (mv == 0) = true := by simp [hz]
  have t4 : decide (me ≤ e) = true := decide_eq_true (by omega)
  clear hz
  have HBa := below_alloc (Below.refl w.heap.size w) (.cells #[.int .i64 mk, .int .i64 mc, .int .i64 mb, .int .i64 me, .int .i64 mv, .int .i64 mu, .slice A mbs.length c] 31)
  have hO := heap_alloc_new w (.cells #[.int .i64 mk, .int .i64 mc, .int .i64 mb, .int .i64 me, .int .i64 mv, .int .i64 mu, .slice A mbs.length c] 31)
  have h1 := Ce.below h HBa
  have hC1 := Kd.C_below hC HBa
  have hgo : g ≠ w.heap.size := by have := blk_lt h.1; omega
  have hwo := HBa.size
  go_enter Tryd.func11, Tryd.ntmps11
  go_wp2_with fail
  revert HBa hO h1 hC1
  generalize hw0 : w.heap.size = o at *
  generalize w.alloc (.cells #[.int .i64 mk, .int .i64 mc, .int .i64 mb, .int .i64 me, .int .i64 mv, .int .i64 mu, .slice A mbs.length c] 31) = wa at *
  intro HBa hO h1 hC1
  have p0 := (blk_cell hO 0).trans rfl
  have p1 := (blk_cell hO 1).trans rfl
  have p2 := (blk_cell hO 2).trans rfl
  have p3 := (blk_cell hO 3).trans rfl
  have p4 := (blk_cell hO 4).trans rfl
  have p5 := (blk_cell hO 5).trans rfl
  have p6 := (blk_cell hO 6).trans rfl
  have p7 := (blk_cell h1.1 0).trans rfl
  refine wp_region_held_drew (S := fun w' => w'.cell? ⟨o, 0, none⟩ = some (.int .i64 mk) ∧ w'.cell? ⟨o, 1, none⟩ = some (.int .i64 mc) ∧ w'.cell? ⟨o, 2, none⟩ = some (.int .i64 mb) ∧ w'.cell? ⟨o, 3, none⟩ = some (.int .i64 me) ∧ w'.cell? ⟨o, 4, none⟩ = some (.int .i64 mv) ∧ w'.cell? ⟨o, 5, none⟩ = some (.int .i64 mu) ∧ w'.cell? ⟨o, 6, none⟩ = some (.slice A mbs.length c) ∧ w'.cell? ⟨g, 0, none⟩ = some (.int .i64 n)) (by kernel_rfl) ⟨p0, p1, p2, p3, p4, p5, p6, p7⟩ (fun hHeld => ?_)
  refine wpAnyH_take (i := 0) (oi := { dst := some 7, op := Op.load 31 (Operand.tmp 3), type := 31, pos := "cell.go:31", after := #[], guard := none }) (v := (.agg #[.int .i64 mk, .int .i64 mc, .int .i64 mb, .int .i64 me, .int .i64 mv, .int .i64 mu, .slice A mbs.length c])) rfl (by kernel_rfl) (by kernel_rfl) (by kernel_rfl) (fun _ _ _ h => h) (Or.inl ⟨by rfl, fun w hSw => by obtain ⟨s0, s1, s2, s3, s4, s5, s6, s7⟩ := hSw; go_simp⟩) (by assumption) ?_
  simp only [Act.put, List.setIfInBounds_toArray, List.set_cons_zero, List.set_cons_succ]
  refine wpAnyH_ready (rs := [1]) (by kernel_rfl) (by simp) ?_
  refine AllReadyH.cons (o := { dst := some 8, op := Op.call { callee := Callee.value (Operand.func 21), args := #[Operand.tmp 7], argTypes := #[31] }, type := 4, pos := "cell.go:31", after := #[{ on := 0, ground := Ground.data }], guard := none }) rfl (fun K hK => ?_) AllReadyH.nil
  go_simp
  go_at_call 21; refine (msg_Right.calls (mbs.length + 12) mk mc mb me mv mu A c mbs true wa.drew (Kd.C_drew hC1) hc (by rw [Rt.msg_right_eq mbs (by omega), hr])).mono ?_; rintro ee w2 ⟨rfl, hb2⟩; have hb3 : Below wa.heap.size wa w2 := Below.trans (below_drew (Below.refl _ _)) hb2; have hO2 := (hb3.block o (blk_lt hO)).trans hO; have hG2 := (hb3.block g (blk_lt h1.1)).trans h1.1; have hC2 := Kd.C_below hC1 hb3; have q0 := (blk_cell hO2 0).trans rfl; have q1 := (blk_cell hO2 1).trans rfl; have q2 := (blk_cell hO2 2).trans rfl; have q3 := (blk_cell hO2 3).trans rfl; have q4 := (blk_cell hO2 4).trans rfl; have q5 := (blk_cell hO2 5).trans rfl; have q6 := (blk_cell hO2 6).trans rfl; have q7 := (blk_cell hG2 0).trans rfl
  go_wp2_with fail
  refine hK.out _ _ ⟨q0, q1, q2, q3, q4, q5, q6, q7⟩ (fun hHeld => ?_)
  clear hK K
  try simp only [Act.put, List.setIfInBounds_toArray, List.set_cons_zero, List.set_cons_succ]
  refine wpAnyH_take (i := 2) (oi := { dst := some 9, op := Op.unOp UnOp.not 4 (Operand.tmp 8), type := 4, pos := "cell.go:31", after := #[{ on := 1, ground := Ground.data }], guard := none }) (v := (.bool false)) rfl (by kernel_rfl) (by kernel_rfl) (by kernel_rfl) (fun _ _ _ h => h) (Or.inl ⟨by rfl, fun w hSw => by obtain ⟨s0, s1, s2, s3, s4, s5, s6, s7⟩ := hSw; go_simp⟩) (by assumption) ?_
  simp only [Act.put, List.setIfInBounds_toArray, List.set_cons_zero, List.set_cons_succ]
  refine wpAnyH_take (i := 3) (oi := { dst := some 10, op := Op.move (Operand.tmp 9), type := 4, pos := "cell.go:31", after := #[{ on := 2, ground := Ground.data }, { on := 1, ground := Ground.chain }], guard := none }) (v := (.bool false)) rfl (by kernel_rfl) (by kernel_rfl) (by kernel_rfl) (fun _ _ _ h => h) (Or.inl ⟨by rfl, fun w hSw => by obtain ⟨s0, s1, s2, s3, s4, s5, s6, s7⟩ := hSw; go_simp⟩) (by assumption) ?_
  simp only [Act.put, List.setIfInBounds_toArray, List.set_cons_zero, List.set_cons_succ]
  refine wpAnyH_take (i := 4) (oi := { dst := some 11, op := Op.fieldAddr 31 (Operand.tmp 3) 0, type := 0, pos := "cell.go:31", after := #[{ on := 3, ground := Ground.guard }], guard := some (3, false) }) (v := (.pointer (some ⟨o, 0, none⟩))) rfl (by kernel_rfl) (by kernel_rfl) (by kernel_rfl) (fun _ _ _ h => h) (Or.inl ⟨by rfl, fun w hSw => by obtain ⟨s0, s1, s2, s3, s4, s5, s6, s7⟩ := hSw; go_simp⟩) (by assumption) ?_
  simp only [Act.put, List.setIfInBounds_toArray, List.set_cons_zero, List.set_cons_succ]
  refine wpAnyH_take (i := 5) (oi := { dst := some 12, op := Op.load 3 (Operand.tmp 11), type := 3, pos := "cell.go:31", after := #[{ on := 4, ground := Ground.data }, { on := 3, ground := Ground.guard }], guard := some (3, false) }) (v := (.int .i64 mk)) rfl (by kernel_rfl) (by kernel_rfl) (by kernel_rfl) (fun _ _ _ h => h) (Or.inl ⟨by rfl, fun w hSw => by obtain ⟨s0, s1, s2, s3, s4, s5, s6, s7⟩ := hSw; go_simp⟩) (by assumption) ?_
  simp only [Act.put, List.setIfInBounds_toArray, List.set_cons_zero, List.set_cons_succ]
  refine wpAnyH_take (i := 6) (oi := { dst := some 13, op := Op.binOp BinOp.neq 3 (Operand.tmp 12) (Operand.const (Value.int IntKind.i64 1)) 3, type := 4, pos := "cell.go:31", after := #[{ on := 5, ground := Ground.data }, { on := 3, ground := Ground.guard }], guard := some (3, false) }) (v := (.bool false)) rfl (by kernel_rfl) (by kernel_rfl) (by kernel_rfl) (fun _ _ _ h => h) (Or.inl ⟨by rfl, fun w hSw => by obtain ⟨s0, s1, s2, s3, s4, s5, s6, s7⟩ := hSw; go_simp⟩) (by assumption) ?_
  simp only [Act.put, List.setIfInBounds_toArray, List.set_cons_zero, List.set_cons_succ]
  refine wpAnyH_take (i := 7) (oi := { dst := some 14, op := Op.pick (Operand.tmp 10) (Operand.const (Value.bool true)) (Operand.tmp 13), type := 4, pos := "cell.go:31", after := #[{ on := 3, ground := Ground.data }, { on := 6, ground := Ground.data }], guard := none }) (v := (.bool false)) rfl (by kernel_rfl) (by kernel_rfl) (by kernel_rfl) (fun _ _ _ h => h) (Or.inl ⟨by rfl, fun w hSw => by obtain ⟨s0, s1, s2, s3, s4, s5, s6, s7⟩ := hSw; go_simp⟩) (by assumption) ?_
  simp only [Act.put, List.setIfInBounds_toArray, List.set_cons_zero, List.set_cons_succ]
  refine wpAnyH_take (i := 8) (oi := { dst := some 15, op := Op.move (Operand.tmp 14), type := 4, pos := "cell.go:31", after := #[{ on := 7, ground := Ground.data }, { on := 3, ground := Ground.chain }], guard := none }) (v := (.bool false)) rfl (by kernel_rfl) (by kernel_rfl) (by kernel_rfl) (fun _ _ _ h => h) (Or.inl ⟨by rfl, fun w hSw => by obtain ⟨s0, s1, s2, s3, s4, s5, s6, s7⟩ := hSw; go_simp⟩) (by assumption) ?_
  simp only [Act.put, List.setIfInBounds_toArray, List.set_cons_zero, List.set_cons_succ]
  refine wpAnyH_take (i := 9) (oi := { dst := some 16, op := Op.fieldAddr 31 (Operand.tmp 3) 1, type := 0, pos := "cell.go:31", after := #[{ on := 8, ground := Ground.guard }], guard := some (8, false) }) (v := (.pointer (some ⟨o, 1, none⟩))) rfl (by kernel_rfl) (by kernel_rfl) (by kernel_rfl) (fun _ _ _ h => h) (Or.inl ⟨by rfl, fun w hSw => by obtain ⟨s0, s1, s2, s3, s4, s5, s6, s7⟩ := hSw; go_simp⟩) (by assumption) ?_
  simp only [Act.put, List.setIfInBounds_toArray, List.set_cons_zero, List.set_cons_succ]
  refine wpAnyH_take (i := 10) (oi := { dst := some 17, op := Op.load 3 (Operand.tmp 16), type := 3, pos := "cell.go:31", after := #[{ on := 9, ground := Ground.data }, { on := 8, ground := Ground.guard }], guard := some (8, false) }) (v := (.int .i64 mc)) rfl (by kernel_rfl) (by kernel_rfl) (by kernel_rfl) (fun _ _ _ h => h) (Or.inl ⟨by rfl, fun w hSw => by obtain ⟨s0, s1, s2, s3, s4, s5, s6, s7⟩ := hSw; go_simp⟩) (by assumption) ?_
  simp only [Act.put, List.setIfInBounds_toArray, List.set_cons_zero, List.set_cons_succ]
  refine wpAnyH_take (i := 11) (oi := { dst := some 18, op := Op.move (Operand.tmp 0), type := 25, pos := "cell.go:31", after := #[{ on := 8, ground := Ground.guard }], guard := some (8, false) }) (v := (.pointer (some ⟨g, 0, none⟩))) rfl (by kernel_rfl) (by kernel_rfl) (by kernel_rfl) (fun _ _ _ h => h) (Or.inl ⟨by rfl, fun w hSw => by obtain ⟨s0, s1, s2, s3, s4, s5, s6, s7⟩ := hSw; go_simp⟩) (by assumption) ?_
  simp only [Act.put, List.setIfInBounds_toArray, List.set_cons_zero, List.set_cons_succ]
  refine wpAnyH_take (i := 12) (oi := { dst := some 19, op := Op.nilCheck (Operand.tmp 18), type := 0, pos := "cell.go:31", after := #[{ on := 11, ground := Ground.data }, { on := 8, ground := Ground.guard }], guard := some (8, false) }) (v := (.pointer (some ⟨g, 0, none⟩))) rfl (by kernel_rfl) (by kernel_rfl) (by kernel_rfl) (fun _ _ _ h => h) (Or.inl ⟨by rfl, fun w hSw => by obtain ⟨s0, s1, s2, s3, s4, s5, s6, s7⟩ := hSw; go_simp⟩) (by assumption) ?_
  simp only [Act.put, List.setIfInBounds_toArray, List.set_cons_zero, List.set_cons_succ]
  refine wpAnyH_take (i := 13) (oi := { dst := some 20, op := Op.fieldAddr 51 (Operand.tmp 19) 0, type := 0, pos := "cell.go:31", after := #[{ on := 12, ground := Ground.data }, { on := 8, ground := Ground.guard }], guard := some (8, false) }) (v := (.pointer (some ⟨g, 0, none⟩))) rfl (by kernel_rfl) (by kernel_rfl) (by kernel_rfl) (fun _ _ _ h => h) (Or.inl ⟨by rfl, fun w hSw => by obtain ⟨s0, s1, s2, s3, s4, s5, s6, s7⟩ := hSw; go_simp⟩) (by assumption) ?_
  simp only [Act.put, List.setIfInBounds_toArray, List.set_cons_zero, List.set_cons_succ]
  refine wpAnyH_take (i := 14) (oi := { dst := some 21, op := Op.load 3 (Operand.tmp 20), type := 3, pos := "cell.go:31", after := #[{ on := 13, ground := Ground.data }, { on := 8, ground := Ground.guard }], guard := some (8, false) }) (v := (.int .i64 n)) rfl (by kernel_rfl) (by kernel_rfl) (by kernel_rfl) (fun _ _ _ h => h) (Or.inl ⟨by rfl, fun w hSw => by obtain ⟨s0, s1, s2, s3, s4, s5, s6, s7⟩ := hSw; go_simp⟩) (by assumption) ?_
  simp only [Act.put, List.setIfInBounds_toArray, List.set_cons_zero, List.set_cons_succ]
  refine wpAnyH_take (i := 15) (oi := { dst := some 22, op := Op.binOp BinOp.neq 3 (Operand.tmp 17) (Operand.tmp 21) 3, type := 4, pos := "cell.go:31", after := #[{ on := 10, ground := Ground.data }, { on := 14, ground := Ground.data }, { on := 8, ground := Ground.guard }], guard := some (8, false) }) (v := (.bool false)) rfl (by kernel_rfl) (by kernel_rfl) (by kernel_rfl) (fun _ _ _ h => h) (Or.inl ⟨by rfl, fun w hSw => by obtain ⟨s0, s1, s2, s3, s4, s5, s6, s7⟩ := hSw; go_simp⟩) (by assumption) ?_
  simp only [Act.put, List.setIfInBounds_toArray, List.set_cons_zero, List.set_cons_succ]
  refine wpAnyH_take (i := 16) (oi := { dst := some 23, op := Op.pick (Operand.tmp 15) (Operand.const (Value.bool true)) (Operand.tmp 22), type := 4, pos := "cell.go:31", after := #[{ on := 8, ground := Ground.data }, { on := 15, ground := Ground.data }], guard := none }) (v := (.bool false)) rfl (by kernel_rfl) (by kernel_rfl) (by kernel_rfl) (fun _ _ _ h => h) (Or.inl ⟨by rfl, fun w hSw => by obtain ⟨s0, s1, s2, s3, s4, s5, s6, s7⟩ := hSw; go_simp⟩) (by assumption) ?_
  simp only [Act.put, List.setIfInBounds_toArray, List.set_cons_zero, List.set_cons_succ]
  refine wpAnyH_done (by kernel_rfl) ?_ _
  have hbA := below_alloc (Below.refl w2.heap.size w2) (.cells #[.int .i64 me, .int .i64 mv] 49)
  have hP := heap_alloc_new w2 (.cells #[.int .i64 me, .int .i64 mv] 49)
  have hO3 := (hbA.block o (blk_lt hO2)).trans hO2
  have hG3 := (hbA.block g (blk_lt hG2)).trans hG2
  have hC3 := Kd.C_below hC2 hbA
  have hb4 := hb3.trans (hbA.mono hb3.size)
  have x4 := (blk_cell hO3 4).trans rfl
  go_upto_region 5 with fail
  clear x4
  revert hP hO3 hG3 hC3 hb4
  generalize hw2 : w2.heap.size = p at *
  generalize w2.alloc (.cells #[.int .i64 me, .int .i64 mv] 49) = w3 at *
  intro hP hO3 hG3 hC3 hb4
  clear hbA q0 q1 q2 q3 q4 q5 q6 q7 p0 p1 p2 p3 p4 p5 p6 p7
  have x0 := (blk_cell hO3 0).trans rfl
  have x1 := (blk_cell hO3 1).trans rfl
  have x2 := (blk_cell hO3 2).trans rfl
  have x3 := (blk_cell hO3 3).trans rfl
  have x4 := (blk_cell hO3 4).trans rfl
  have x5 := (blk_cell hO3 5).trans rfl
  have x6 := (blk_cell hO3 6).trans rfl
  have y0 := (blk_cell hG3 0).trans rfl
  have y1 := (blk_cell hG3 1).trans rfl
  have y2 := (blk_cell hG3 2).trans rfl
  have y3 := (blk_cell hG3 3).trans rfl
  have y4 := (blk_cell hG3 4).trans rfl
  have y5 := (blk_cell hG3 5).trans rfl
  have fg2 := blk_frozen hG3 2
  have fg3 := blk_frozen hG3 3
  have z0 := (blk_cell hP 0).trans rfl
  have z1 := (blk_cell hP 1).trans rfl
  refine wp_region_held_drew (S := fun w' => w'.cell? ⟨o, 3, none⟩ = some (.int .i64 me) ∧ w'.cell? ⟨g, 2, none⟩ = some (.int .i64 e)) (by kernel_rfl) ⟨x3, y2⟩ (fun hHeld => ?_)
  refine wpAnyH_take (i := 0) (oi := { dst := some 33, op := Op.move (Operand.tmp 6), type := 4, pos := "cell.go:37", after := #[], guard := none }) (v := (.bool true)) rfl (by kernel_rfl) (by kernel_rfl) (by kernel_rfl) (fun _ _ _ h => h) (Or.inl ⟨by rfl, fun w hSw => by obtain ⟨s0, s1⟩ := hSw; go_simp⟩) (by assumption) ?_
  simp only [Act.put, List.setIfInBounds_toArray, List.set_cons_zero, List.set_cons_succ]
  refine wpAnyH_take (i := 1) (oi := { dst := some 34, op := Op.move (Operand.tmp 33), type := 4, pos := "cell.go:37", after := #[{ on := 0, ground := Ground.data }], guard := none }) (v := (.bool true)) rfl (by kernel_rfl) (by kernel_rfl) (by kernel_rfl) (fun _ _ _ h => h) (Or.inl ⟨by rfl, fun w hSw => by obtain ⟨s0, s1⟩ := hSw; go_simp⟩) (by assumption) ?_
  simp only [Act.put, List.setIfInBounds_toArray, List.set_cons_zero, List.set_cons_succ]
  refine wpAnyH_take (i := 2) (oi := { dst := some 35, op := Op.fieldAddr 31 (Operand.tmp 3) 3, type := 0, pos := "cell.go:37", after := #[{ on := 1, ground := Ground.guard }], guard := some (1, true) }) (v := (.pointer (some ⟨o, 3, none⟩))) rfl (by kernel_rfl) (by kernel_rfl) (by kernel_rfl) (fun _ _ _ h => h) (Or.inl ⟨by rfl, fun w hSw => by obtain ⟨s0, s1⟩ := hSw; go_simp⟩) (by assumption) ?_
  simp only [Act.put, List.setIfInBounds_toArray, List.set_cons_zero, List.set_cons_succ]
  refine wpAnyH_take (i := 3) (oi := { dst := some 36, op := Op.load 3 (Operand.tmp 35), type := 3, pos := "cell.go:37", after := #[{ on := 2, ground := Ground.data }, { on := 1, ground := Ground.guard }], guard := some (1, true) }) (v := (.int .i64 me)) rfl (by kernel_rfl) (by kernel_rfl) (by kernel_rfl) (fun _ _ _ h => h) (Or.inl ⟨by rfl, fun w hSw => by obtain ⟨s0, s1⟩ := hSw; go_simp⟩) (by assumption) ?_
  simp only [Act.put, List.setIfInBounds_toArray, List.set_cons_zero, List.set_cons_succ]
  refine wpAnyH_take (i := 4) (oi := { dst := some 37, op := Op.move (Operand.tmp 0), type := 25, pos := "cell.go:37", after := #[{ on := 1, ground := Ground.guard }], guard := some (1, true) }) (v := (.pointer (some ⟨g, 0, none⟩))) rfl (by kernel_rfl) (by kernel_rfl) (by kernel_rfl) (fun _ _ _ h => h) (Or.inl ⟨by rfl, fun w hSw => by obtain ⟨s0, s1⟩ := hSw; go_simp⟩) (by assumption) ?_
  simp only [Act.put, List.setIfInBounds_toArray, List.set_cons_zero, List.set_cons_succ]
  refine wpAnyH_take (i := 5) (oi := { dst := some 38, op := Op.nilCheck (Operand.tmp 37), type := 0, pos := "cell.go:37", after := #[{ on := 4, ground := Ground.data }, { on := 1, ground := Ground.guard }], guard := some (1, true) }) (v := (.pointer (some ⟨g, 0, none⟩))) rfl (by kernel_rfl) (by kernel_rfl) (by kernel_rfl) (fun _ _ _ h => h) (Or.inl ⟨by rfl, fun w hSw => by obtain ⟨s0, s1⟩ := hSw; go_simp⟩) (by assumption) ?_
  simp only [Act.put, List.setIfInBounds_toArray, List.set_cons_zero, List.set_cons_succ]
  refine wpAnyH_take (i := 6) (oi := { dst := some 39, op := Op.fieldAddr 51 (Operand.tmp 38) 2, type := 0, pos := "cell.go:37", after := #[{ on := 5, ground := Ground.data }, { on := 1, ground := Ground.guard }], guard := some (1, true) }) (v := (.pointer (some ⟨g, 2, none⟩))) rfl (by kernel_rfl) (by kernel_rfl) (by kernel_rfl) (fun _ _ _ h => h) (Or.inl ⟨by rfl, fun w hSw => by obtain ⟨s0, s1⟩ := hSw; go_simp⟩) (by assumption) ?_
  simp only [Act.put, List.setIfInBounds_toArray, List.set_cons_zero, List.set_cons_succ]
  refine wpAnyH_take (i := 7) (oi := { dst := some 40, op := Op.indexAddr 49 (Operand.tmp 39) (Operand.const (Value.int IntKind.i64 0)), type := 0, pos := "cell.go:37", after := #[{ on := 6, ground := Ground.data }, { on := 1, ground := Ground.guard }], guard := some (1, true) }) (v := (.pointer (some ⟨g, 2, none⟩))) rfl (by kernel_rfl) (by kernel_rfl) (by kernel_rfl) (fun _ _ _ h => h) (Or.inl ⟨by rfl, fun w hSw => by obtain ⟨s0, s1⟩ := hSw; go_simp⟩) (by assumption) ?_
  simp only [Act.put, List.setIfInBounds_toArray, List.set_cons_zero, List.set_cons_succ]
  refine wpAnyH_take (i := 8) (oi := { dst := some 41, op := Op.load 3 (Operand.tmp 40), type := 3, pos := "cell.go:37", after := #[{ on := 7, ground := Ground.data }, { on := 1, ground := Ground.guard }], guard := some (1, true) }) (v := (.int .i64 e)) rfl (by kernel_rfl) (by kernel_rfl) (by kernel_rfl) (fun _ _ _ h => h) (Or.inl ⟨by rfl, fun w hSw => by obtain ⟨s0, s1⟩ := hSw; go_simp⟩) (by assumption) ?_
  simp only [Act.put, List.setIfInBounds_toArray, List.set_cons_zero, List.set_cons_succ]
  refine wpAnyH_take (i := 9) (oi := { dst := some 42, op := Op.binOp BinOp.leq 3 (Operand.tmp 36) (Operand.tmp 41) 3, type := 4, pos := "cell.go:37", after := #[{ on := 3, ground := Ground.data }, { on := 8, ground := Ground.data }, { on := 1, ground := Ground.guard }], guard := some (1, true) }) (v := (.bool true)) rfl (by kernel_rfl) (by kernel_rfl) (by kernel_rfl) (fun _ _ _ h => h) (Or.inl ⟨by rfl, fun w hSw => by obtain ⟨s0, s1⟩ := hSw; go_simp⟩) (by assumption) ?_
  simp only [Act.put, List.setIfInBounds_toArray, List.set_cons_zero, List.set_cons_succ]
  refine wpAnyH_take (i := 10) (oi := { dst := some 43, op := Op.pick (Operand.tmp 34) (Operand.tmp 42) (Operand.const (Value.bool false)), type := 4, pos := "cell.go:37", after := #[{ on := 1, ground := Ground.data }, { on := 9, ground := Ground.data }], guard := none }) (v := (.bool true)) rfl (by kernel_rfl) (by kernel_rfl) (by kernel_rfl) (fun _ _ _ h => h) (Or.inl ⟨by rfl, fun w hSw => by obtain ⟨s0, s1⟩ := hSw; go_simp⟩) (by assumption) ?_
  simp only [Act.put, List.setIfInBounds_toArray, List.set_cons_zero, List.set_cons_succ]
  refine wpAnyH_take (i := 11) (oi := { dst := some 32, op := Op.assign (Operand.tmp 43), type := 4, pos := "cell.go:37", after := #[{ on := 10, ground := Ground.data }, { on := 1, ground := Ground.chain }], guard := none }) (v := (.bool true)) rfl (by kernel_rfl) (by kernel_rfl) (by kernel_rfl) (fun _ _ _ h => h) (Or.inl ⟨by rfl, fun w hSw => by obtain ⟨s0, s1⟩ := hSw; go_simp⟩) (by assumption) ?_
  simp only [Act.put, List.setIfInBounds_toArray, List.set_cons_zero, List.set_cons_succ]
  refine wpAnyH_done (by kernel_rfl) ?_ _
  go_wp2_with fail
  go_ret
  subst hw0
  exact ⟨rfl, Does.same h hB ((HBa.trans (hb4.mono HBa.size)).drew)⟩
set_option maxHeartbeats 4000000 in
theorem recv_greet (h : Ce ok 51 w0 w g n b e v u V bs) (hB : Below w0.heap.size w0 w) (hC : Kd.C k35 w A mbs.length mbs) (hc : mbs.length ≤ c) (hml : mbs.length ≤ 2000000000000) (hr : Rt.rightS mk mc mb me mv mu mbs = true) (hk : mk = 1) (hn : mc = n) (hz : mv = 0) (ho : e < me) :
    Calls Tryd.prog 11 #[.pointer (some ⟨g, 0, none⟩), .agg #[.int .i64 mk, .int .i64 mc, .int .i64 mb, .int .i64 me, .int .i64 mv, .int .i64 mu, .slice A mbs.length c]] w fun ee w' => ee = .returned (.bool true) ∧ Does ok 51 w0 w w' g n b me mv u bs := by
  have t1 : (mk != 1) = false := by simp [hk]
  have t2 : (mc != n) = false := by simp [hn]
  clear hk hn
  have t4 : decide (me ≤ e) = false := decide_eq_false (by omega)
  have t3 : (mv == 0) = true := by simp [hz]
  clear hz
  have HBa := below_alloc (Below.refl w.heap.size w) (.cells #[.int .i64 mk, .int .i64 mc, .int .i64 mb, .int .i64 me, .int .i64 mv, .int .i64 mu, .slice A mbs.length c] 31)
  have hO := heap_alloc_new w (.cells #[.int .i64 mk, .int .i64 mc, .int .i64 mb, .int .i64 me, .int .i64 mv, .int .i64 mu, .slice A mbs.length c] 31)
  have h1 := Ce.below h HBa
  have hC1 := Kd.C_below hC HBa
  have hgo : g ≠ w.heap.size := by have := blk_lt h.1; omega
  have hwo := HBa.size
  go_enter Tryd.func11, Tryd.ntmps11
  go_wp2_with fail
  revert HBa hO h1 hC1
  generalize hw0 : w.heap.size = o at *
  generalize w.alloc (.cells #[.int .i64 mk, .int .i64 mc, .int .i64 mb, .int .i64 me, .int .i64 mv, .int .i64 mu, .slice A mbs.length c] 31) = wa at *
  intro HBa hO h1 hC1
  have p0 := (blk_cell hO 0).trans rfl
  have p1 := (blk_cell hO 1).trans rfl
  have p2 := (blk_cell hO 2).trans rfl
  have p3 := (blk_cell hO 3).trans rfl
  have p4 := (blk_cell hO 4).trans rfl
  have p5 := (blk_cell hO 5).trans rfl
  have p6 := (blk_cell hO 6).trans rfl
  have p7 := (blk_cell h1.1 0).trans rfl
  refine wp_region_held_drew (S := fun w' => w'.cell? ⟨o, 0, none⟩ = some (.int .i64 mk) ∧ w'.cell? ⟨o, 1, none⟩ = some (.int .i64 mc) ∧ w'.cell? ⟨o, 2, none⟩ = some (.int .i64 mb) ∧ w'.cell? ⟨o, 3, none⟩ = some (.int .i64 me) ∧ w'.cell? ⟨o, 4, none⟩ = some (.int .i64 mv) ∧ w'.cell? ⟨o, 5, none⟩ = some (.int .i64 mu) ∧ w'.cell? ⟨o, 6, none⟩ = some (.slice A mbs.length c) ∧ w'.cell? ⟨g, 0, none⟩ = some (.int .i64 n)) (by kernel_rfl) ⟨p0, p1, p2, p3, p4, p5, p6, p7⟩ (fun hHeld => ?_)
  refine wpAnyH_take (i := 0) (oi := { dst := some 7, op := Op.load 31 (Operand.tmp 3), type := 31, pos := "cell.go:31", after := #[], guard := none }) (v := (.agg #[.int .i64 mk, .int .i64 mc, .int .i64 mb, .int .i64 me, .int .i64 mv, .int .i64 mu, .slice A mbs.length c])) rfl (by kernel_rfl) (by kernel_rfl) (by kernel_rfl) (fun _ _ _ h => h) (Or.inl ⟨by rfl, fun w hSw => by obtain ⟨s0, s1, s2, s3, s4, s5, s6, s7⟩ := hSw; go_simp⟩) (by assumption) ?_
  simp only [Act.put, List.setIfInBounds_toArray, List.set_cons_zero, List.set_cons_succ]
  refine wpAnyH_ready (rs := [1]) (by kernel_rfl) (by simp) ?_
  refine AllReadyH.cons (o := { dst := some 8, op := Op.call { callee := Callee.value (Operand.func 21), args := #[Operand.tmp 7], argTypes := #[31] }, type := 4, pos := "cell.go:31", after := #[{ on := 0, ground := Ground.data }], guard := none }) rfl (fun K hK => ?_) AllReadyH.nil
  go_simp
  go_at_call 21; refine (msg_Right.calls (mbs.length + 12) mk mc mb me mv mu A c mbs true wa.drew (Kd.C_drew hC1) hc (by rw [Rt.msg_right_eq mbs (by omega), hr])).mono ?_; rintro ee w2 ⟨rfl, hb2⟩; have hb3 : Below wa.heap.size wa w2 := Below.trans (below_drew (Below.refl _ _)) hb2; have hO2 := (hb3.block o (blk_lt hO)).trans hO; have hG2 := (hb3.block g (blk_lt h1.1)).trans h1.1; have hC2 := Kd.C_below hC1 hb3; have q0 := (blk_cell hO2 0).trans rfl; have q1 := (blk_cell hO2 1).trans rfl; have q2 := (blk_cell hO2 2).trans rfl; have q3 := (blk_cell hO2 3).trans rfl; have q4 := (blk_cell hO2 4).trans rfl; have q5 := (blk_cell hO2 5).trans rfl; have q6 := (blk_cell hO2 6).trans rfl; have q7 := (blk_cell hG2 0).trans rfl
  go_wp2_with fail
  refine hK.out _ _ ⟨q0, q1, q2, q3, q4, q5, q6, q7⟩ (fun hHeld => ?_)
  clear hK K
  try simp only [Act.put, List.setIfInBounds_toArray, List.set_cons_zero, List.set_cons_succ]
  refine wpAnyH_take (i := 2) (oi := { dst := some 9, op := Op.unOp UnOp.not 4 (Operand.tmp 8), type := 4, pos := "cell.go:31", after := #[{ on := 1, ground := Ground.data }], guard := none }) (v := (.bool false)) rfl (by kernel_rfl) (by kernel_rfl) (by kernel_rfl) (fun _ _ _ h => h) (Or.inl ⟨by rfl, fun w hSw => by obtain ⟨s0, s1, s2, s3, s4, s5, s6, s7⟩ := hSw; go_simp⟩) (by assumption) ?_
  simp only [Act.put, List.setIfInBounds_toArray, List.set_cons_zero, List.set_cons_succ]
  refine wpAnyH_take (i := 3) (oi := { dst := some 10, op := Op.move (Operand.tmp 9), type := 4, pos := "cell.go:31", after := #[{ on := 2, ground := Ground.data }, { on := 1, ground := Ground.chain }], guard := none }) (v := (.bool false)) rfl (by kernel_rfl) (by kernel_rfl) (by kernel_rfl) (fun _ _ _ h => h) (Or.inl ⟨by rfl, fun w hSw => by obtain ⟨s0, s1, s2, s3, s4, s5, s6, s7⟩ := hSw; go_simp⟩) (by assumption) ?_
  simp only [Act.put, List.setIfInBounds_toArray, List.set_cons_zero, List.set_cons_succ]
  refine wpAnyH_take (i := 4) (oi := { dst := some 11, op := Op.fieldAddr 31 (Operand.tmp 3) 0, type := 0, pos := "cell.go:31", after := #[{ on := 3, ground := Ground.guard }], guard := some (3, false) }) (v := (.pointer (some ⟨o, 0, none⟩))) rfl (by kernel_rfl) (by kernel_rfl) (by kernel_rfl) (fun _ _ _ h => h) (Or.inl ⟨by rfl, fun w hSw => by obtain ⟨s0, s1, s2, s3, s4, s5, s6, s7⟩ := hSw; go_simp⟩) (by assumption) ?_
  simp only [Act.put, List.setIfInBounds_toArray, List.set_cons_zero, List.set_cons_succ]
  refine wpAnyH_take (i := 5) (oi := { dst := some 12, op := Op.load 3 (Operand.tmp 11), type := 3, pos := "cell.go:31", after := #[{ on := 4, ground := Ground.data }, { on := 3, ground := Ground.guard }], guard := some (3, false) }) (v := (.int .i64 mk)) rfl (by kernel_rfl) (by kernel_rfl) (by kernel_rfl) (fun _ _ _ h => h) (Or.inl ⟨by rfl, fun w hSw => by obtain ⟨s0, s1, s2, s3, s4, s5, s6, s7⟩ := hSw; go_simp⟩) (by assumption) ?_
  simp only [Act.put, List.setIfInBounds_toArray, List.set_cons_zero, List.set_cons_succ]
  refine wpAnyH_take (i := 6) (oi := { dst := some 13, op := Op.binOp BinOp.neq 3 (Operand.tmp 12) (Operand.const (Value.int IntKind.i64 1)) 3, type := 4, pos := "cell.go:31", after := #[{ on := 5, ground := Ground.data }, { on := 3, ground := Ground.guard }], guard := some (3, false) }) (v := (.bool false)) rfl (by kernel_rfl) (by kernel_rfl) (by kernel_rfl) (fun _ _ _ h => h) (Or.inl ⟨by rfl, fun w hSw => by obtain ⟨s0, s1, s2, s3, s4, s5, s6, s7⟩ := hSw; go_simp⟩) (by assumption) ?_
  simp only [Act.put, List.setIfInBounds_toArray, List.set_cons_zero, List.set_cons_succ]
  refine wpAnyH_take (i := 7) (oi := { dst := some 14, op := Op.pick (Operand.tmp 10) (Operand.const (Value.bool true)) (Operand.tmp 13), type := 4, pos := "cell.go:31", after := #[{ on := 3, ground := Ground.data }, { on := 6, ground := Ground.data }], guard := none }) (v := (.bool false)) rfl (by kernel_rfl) (by kernel_rfl) (by kernel_rfl) (fun _ _ _ h => h) (Or.inl ⟨by rfl, fun w hSw => by obtain ⟨s0, s1, s2, s3, s4, s5, s6, s7⟩ := hSw; go_simp⟩) (by assumption) ?_
  simp only [Act.put, List.setIfInBounds_toArray, List.set_cons_zero, List.set_cons_succ]
  refine wpAnyH_take (i := 8) (oi := { dst := some 15, op := Op.move (Operand.tmp 14), type := 4, pos := "cell.go:31", after := #[{ on := 7, ground := Ground.data }, { on := 3, ground := Ground.chain }], guard := none }) (v := (.bool false)) rfl (by kernel_rfl) (by kernel_rfl) (by kernel_rfl) (fun _ _ _ h => h) (Or.inl ⟨by rfl, fun w hSw => by obtain ⟨s0, s1, s2, s3, s4, s5, s6, s7⟩ := hSw; go_simp⟩) (by assumption) ?_
  simp only [Act.put, List.setIfInBounds_toArray, List.set_cons_zero, List.set_cons_succ]
  refine wpAnyH_take (i := 9) (oi := { dst := some 16, op := Op.fieldAddr 31 (Operand.tmp 3) 1, type := 0, pos := "cell.go:31", after := #[{ on := 8, ground := Ground.guard }], guard := some (8, false) }) (v := (.pointer (some ⟨o, 1, none⟩))) rfl (by kernel_rfl) (by kernel_rfl) (by kernel_rfl) (fun _ _ _ h => h) (Or.inl ⟨by rfl, fun w hSw => by obtain ⟨s0, s1, s2, s3, s4, s5, s6, s7⟩ := hSw; go_simp⟩) (by assumption) ?_
  simp only [Act.put, List.setIfInBounds_toArray, List.set_cons_zero, List.set_cons_succ]
  refine wpAnyH_take (i := 10) (oi := { dst := some 17, op := Op.load 3 (Operand.tmp 16), type := 3, pos := "cell.go:31", after := #[{ on := 9, ground := Ground.data }, { on := 8, ground := Ground.guard }], guard := some (8, false) }) (v := (.int .i64 mc)) rfl (by kernel_rfl) (by kernel_rfl) (by kernel_rfl) (fun _ _ _ h => h) (Or.inl ⟨by rfl, fun w hSw => by obtain ⟨s0, s1, s2, s3, s4, s5, s6, s7⟩ := hSw; go_simp⟩) (by assumption) ?_
  simp only [Act.put, List.setIfInBounds_toArray, List.set_cons_zero, List.set_cons_succ]
  refine wpAnyH_take (i := 11) (oi := { dst := some 18, op := Op.move (Operand.tmp 0), type := 25, pos := "cell.go:31", after := #[{ on := 8, ground := Ground.guard }], guard := some (8, false) }) (v := (.pointer (some ⟨g, 0, none⟩))) rfl (by kernel_rfl) (by kernel_rfl) (by kernel_rfl) (fun _ _ _ h => h) (Or.inl ⟨by rfl, fun w hSw => by obtain ⟨s0, s1, s2, s3, s4, s5, s6, s7⟩ := hSw; go_simp⟩) (by assumption) ?_
  simp only [Act.put, List.setIfInBounds_toArray, List.set_cons_zero, List.set_cons_succ]
  refine wpAnyH_take (i := 12) (oi := { dst := some 19, op := Op.nilCheck (Operand.tmp 18), type := 0, pos := "cell.go:31", after := #[{ on := 11, ground := Ground.data }, { on := 8, ground := Ground.guard }], guard := some (8, false) }) (v := (.pointer (some ⟨g, 0, none⟩))) rfl (by kernel_rfl) (by kernel_rfl) (by kernel_rfl) (fun _ _ _ h => h) (Or.inl ⟨by rfl, fun w hSw => by obtain ⟨s0, s1, s2, s3, s4, s5, s6, s7⟩ := hSw; go_simp⟩) (by assumption) ?_
  simp only [Act.put, List.setIfInBounds_toArray, List.set_cons_zero, List.set_cons_succ]
  refine wpAnyH_take (i := 13) (oi := { dst := some 20, op := Op.fieldAddr 51 (Operand.tmp 19) 0, type := 0, pos := "cell.go:31", after := #[{ on := 12, ground := Ground.data }, { on := 8, ground := Ground.guard }], guard := some (8, false) }) (v := (.pointer (some ⟨g, 0, none⟩))) rfl (by kernel_rfl) (by kernel_rfl) (by kernel_rfl) (fun _ _ _ h => h) (Or.inl ⟨by rfl, fun w hSw => by obtain ⟨s0, s1, s2, s3, s4, s5, s6, s7⟩ := hSw; go_simp⟩) (by assumption) ?_
  simp only [Act.put, List.setIfInBounds_toArray, List.set_cons_zero, List.set_cons_succ]
  refine wpAnyH_take (i := 14) (oi := { dst := some 21, op := Op.load 3 (Operand.tmp 20), type := 3, pos := "cell.go:31", after := #[{ on := 13, ground := Ground.data }, { on := 8, ground := Ground.guard }], guard := some (8, false) }) (v := (.int .i64 n)) rfl (by kernel_rfl) (by kernel_rfl) (by kernel_rfl) (fun _ _ _ h => h) (Or.inl ⟨by rfl, fun w hSw => by obtain ⟨s0, s1, s2, s3, s4, s5, s6, s7⟩ := hSw; go_simp⟩) (by assumption) ?_
  simp only [Act.put, List.setIfInBounds_toArray, List.set_cons_zero, List.set_cons_succ]
  refine wpAnyH_take (i := 15) (oi := { dst := some 22, op := Op.binOp BinOp.neq 3 (Operand.tmp 17) (Operand.tmp 21) 3, type := 4, pos := "cell.go:31", after := #[{ on := 10, ground := Ground.data }, { on := 14, ground := Ground.data }, { on := 8, ground := Ground.guard }], guard := some (8, false) }) (v := (.bool false)) rfl (by kernel_rfl) (by kernel_rfl) (by kernel_rfl) (fun _ _ _ h => h) (Or.inl ⟨by rfl, fun w hSw => by obtain ⟨s0, s1, s2, s3, s4, s5, s6, s7⟩ := hSw; go_simp⟩) (by assumption) ?_
  simp only [Act.put, List.setIfInBounds_toArray, List.set_cons_zero, List.set_cons_succ]
  refine wpAnyH_take (i := 16) (oi := { dst := some 23, op := Op.pick (Operand.tmp 15) (Operand.const (Value.bool true)) (Operand.tmp 22), type := 4, pos := "cell.go:31", after := #[{ on := 8, ground := Ground.data }, { on := 15, ground := Ground.data }], guard := none }) (v := (.bool false)) rfl (by kernel_rfl) (by kernel_rfl) (by kernel_rfl) (fun _ _ _ h => h) (Or.inl ⟨by rfl, fun w hSw => by obtain ⟨s0, s1, s2, s3, s4, s5, s6, s7⟩ := hSw; go_simp⟩) (by assumption) ?_
  simp only [Act.put, List.setIfInBounds_toArray, List.set_cons_zero, List.set_cons_succ]
  refine wpAnyH_done (by kernel_rfl) ?_ _
  have hbA := below_alloc (Below.refl w2.heap.size w2) (.cells #[.int .i64 me, .int .i64 mv] 49)
  have hP := heap_alloc_new w2 (.cells #[.int .i64 me, .int .i64 mv] 49)
  have hO3 := (hbA.block o (blk_lt hO2)).trans hO2
  have hG3 := (hbA.block g (blk_lt hG2)).trans hG2
  have hC3 := Kd.C_below hC2 hbA
  have hb4 := hb3.trans (hbA.mono hb3.size)
  have x4 := (blk_cell hO3 4).trans rfl
  go_upto_region 5 with fail
  clear x4
  revert hP hO3 hG3 hC3 hb4
  generalize hw2 : w2.heap.size = p at *
  generalize w2.alloc (.cells #[.int .i64 me, .int .i64 mv] 49) = w3 at *
  intro hP hO3 hG3 hC3 hb4
  clear hbA q0 q1 q2 q3 q4 q5 q6 q7 p0 p1 p2 p3 p4 p5 p6 p7
  have x0 := (blk_cell hO3 0).trans rfl
  have x1 := (blk_cell hO3 1).trans rfl
  have x2 := (blk_cell hO3 2).trans rfl
  have x3 := (blk_cell hO3 3).trans rfl
  have x4 := (blk_cell hO3 4).trans rfl
  have x5 := (blk_cell hO3 5).trans rfl
  have x6 := (blk_cell hO3 6).trans rfl
  have y0 := (blk_cell hG3 0).trans rfl
  have y1 := (blk_cell hG3 1).trans rfl
  have y2 := (blk_cell hG3 2).trans rfl
  have y3 := (blk_cell hG3 3).trans rfl
  have y4 := (blk_cell hG3 4).trans rfl
  have y5 := (blk_cell hG3 5).trans rfl
  have fg2 := blk_frozen hG3 2
  have fg3 := blk_frozen hG3 3
  have z0 := (blk_cell hP 0).trans rfl
  have z1 := (blk_cell hP 1).trans rfl
  refine wp_region_held_drew (S := fun w' => w'.cell? ⟨o, 3, none⟩ = some (.int .i64 me) ∧ w'.cell? ⟨g, 2, none⟩ = some (.int .i64 e)) (by kernel_rfl) ⟨x3, y2⟩ (fun hHeld => ?_)
  refine wpAnyH_take (i := 0) (oi := { dst := some 33, op := Op.move (Operand.tmp 6), type := 4, pos := "cell.go:37", after := #[], guard := none }) (v := (.bool true)) rfl (by kernel_rfl) (by kernel_rfl) (by kernel_rfl) (fun _ _ _ h => h) (Or.inl ⟨by rfl, fun w hSw => by obtain ⟨s0, s1⟩ := hSw; go_simp⟩) (by assumption) ?_
  simp only [Act.put, List.setIfInBounds_toArray, List.set_cons_zero, List.set_cons_succ]
  refine wpAnyH_take (i := 1) (oi := { dst := some 34, op := Op.move (Operand.tmp 33), type := 4, pos := "cell.go:37", after := #[{ on := 0, ground := Ground.data }], guard := none }) (v := (.bool true)) rfl (by kernel_rfl) (by kernel_rfl) (by kernel_rfl) (fun _ _ _ h => h) (Or.inl ⟨by rfl, fun w hSw => by obtain ⟨s0, s1⟩ := hSw; go_simp⟩) (by assumption) ?_
  simp only [Act.put, List.setIfInBounds_toArray, List.set_cons_zero, List.set_cons_succ]
  refine wpAnyH_take (i := 2) (oi := { dst := some 35, op := Op.fieldAddr 31 (Operand.tmp 3) 3, type := 0, pos := "cell.go:37", after := #[{ on := 1, ground := Ground.guard }], guard := some (1, true) }) (v := (.pointer (some ⟨o, 3, none⟩))) rfl (by kernel_rfl) (by kernel_rfl) (by kernel_rfl) (fun _ _ _ h => h) (Or.inl ⟨by rfl, fun w hSw => by obtain ⟨s0, s1⟩ := hSw; go_simp⟩) (by assumption) ?_
  simp only [Act.put, List.setIfInBounds_toArray, List.set_cons_zero, List.set_cons_succ]
  refine wpAnyH_take (i := 3) (oi := { dst := some 36, op := Op.load 3 (Operand.tmp 35), type := 3, pos := "cell.go:37", after := #[{ on := 2, ground := Ground.data }, { on := 1, ground := Ground.guard }], guard := some (1, true) }) (v := (.int .i64 me)) rfl (by kernel_rfl) (by kernel_rfl) (by kernel_rfl) (fun _ _ _ h => h) (Or.inl ⟨by rfl, fun w hSw => by obtain ⟨s0, s1⟩ := hSw; go_simp⟩) (by assumption) ?_
  simp only [Act.put, List.setIfInBounds_toArray, List.set_cons_zero, List.set_cons_succ]
  refine wpAnyH_take (i := 4) (oi := { dst := some 37, op := Op.move (Operand.tmp 0), type := 25, pos := "cell.go:37", after := #[{ on := 1, ground := Ground.guard }], guard := some (1, true) }) (v := (.pointer (some ⟨g, 0, none⟩))) rfl (by kernel_rfl) (by kernel_rfl) (by kernel_rfl) (fun _ _ _ h => h) (Or.inl ⟨by rfl, fun w hSw => by obtain ⟨s0, s1⟩ := hSw; go_simp⟩) (by assumption) ?_
  simp only [Act.put, List.setIfInBounds_toArray, List.set_cons_zero, List.set_cons_succ]
  refine wpAnyH_take (i := 5) (oi := { dst := some 38, op := Op.nilCheck (Operand.tmp 37), type := 0, pos := "cell.go:37", after := #[{ on := 4, ground := Ground.data }, { on := 1, ground := Ground.guard }], guard := some (1, true) }) (v := (.pointer (some ⟨g, 0, none⟩))) rfl (by kernel_rfl) (by kernel_rfl) (by kernel_rfl) (fun _ _ _ h => h) (Or.inl ⟨by rfl, fun w hSw => by obtain ⟨s0, s1⟩ := hSw; go_simp⟩) (by assumption) ?_
  simp only [Act.put, List.setIfInBounds_toArray, List.set_cons_zero, List.set_cons_succ]
  refine wpAnyH_take (i := 6) (oi := { dst := some 39, op := Op.fieldAddr 51 (Operand.tmp 38) 2, type := 0, pos := "cell.go:37", after := #[{ on := 5, ground := Ground.data }, { on := 1, ground := Ground.guard }], guard := some (1, true) }) (v := (.pointer (some ⟨g, 2, none⟩))) rfl (by kernel_rfl) (by kernel_rfl) (by kernel_rfl) (fun _ _ _ h => h) (Or.inl ⟨by rfl, fun w hSw => by obtain ⟨s0, s1⟩ := hSw; go_simp⟩) (by assumption) ?_
  simp only [Act.put, List.setIfInBounds_toArray, List.set_cons_zero, List.set_cons_succ]
  refine wpAnyH_take (i := 7) (oi := { dst := some 40, op := Op.indexAddr 49 (Operand.tmp 39) (Operand.const (Value.int IntKind.i64 0)), type := 0, pos := "cell.go:37", after := #[{ on := 6, ground := Ground.data }, { on := 1, ground := Ground.guard }], guard := some (1, true) }) (v := (.pointer (some ⟨g, 2, none⟩))) rfl (by kernel_rfl) (by kernel_rfl) (by kernel_rfl) (fun _ _ _ h => h) (Or.inl ⟨by rfl, fun w hSw => by obtain ⟨s0, s1⟩ := hSw; go_simp⟩) (by assumption) ?_
  simp only [Act.put, List.setIfInBounds_toArray, List.set_cons_zero, List.set_cons_succ]
  refine wpAnyH_take (i := 8) (oi := { dst := some 41, op := Op.load 3 (Operand.tmp 40), type := 3, pos := "cell.go:37", after := #[{ on := 7, ground := Ground.data }, { on := 1, ground := Ground.guard }], guard := some (1, true) }) (v := (.int .i64 e)) rfl (by kernel_rfl) (by kernel_rfl) (by kernel_rfl) (fun _ _ _ h => h) (Or.inl ⟨by rfl, fun w hSw => by obtain ⟨s0, s1⟩ := hSw; go_simp⟩) (by assumption) ?_
  simp only [Act.put, List.setIfInBounds_toArray, List.set_cons_zero, List.set_cons_succ]
  refine wpAnyH_take (i := 9) (oi := { dst := some 42, op := Op.binOp BinOp.leq 3 (Operand.tmp 36) (Operand.tmp 41) 3, type := 4, pos := "cell.go:37", after := #[{ on := 3, ground := Ground.data }, { on := 8, ground := Ground.data }, { on := 1, ground := Ground.guard }], guard := some (1, true) }) (v := (.bool false)) rfl (by kernel_rfl) (by kernel_rfl) (by kernel_rfl) (fun _ _ _ h => h) (Or.inl ⟨by rfl, fun w hSw => by obtain ⟨s0, s1⟩ := hSw; go_simp⟩) (by assumption) ?_
  simp only [Act.put, List.setIfInBounds_toArray, List.set_cons_zero, List.set_cons_succ]
  refine wpAnyH_take (i := 10) (oi := { dst := some 43, op := Op.pick (Operand.tmp 34) (Operand.tmp 42) (Operand.const (Value.bool false)), type := 4, pos := "cell.go:37", after := #[{ on := 1, ground := Ground.data }, { on := 9, ground := Ground.data }], guard := none }) (v := (.bool false)) rfl (by kernel_rfl) (by kernel_rfl) (by kernel_rfl) (fun _ _ _ h => h) (Or.inl ⟨by rfl, fun w hSw => by obtain ⟨s0, s1⟩ := hSw; go_simp⟩) (by assumption) ?_
  simp only [Act.put, List.setIfInBounds_toArray, List.set_cons_zero, List.set_cons_succ]
  refine wpAnyH_take (i := 11) (oi := { dst := some 32, op := Op.assign (Operand.tmp 43), type := 4, pos := "cell.go:37", after := #[{ on := 10, ground := Ground.data }, { on := 1, ground := Ground.chain }], guard := none }) (v := (.bool false)) rfl (by kernel_rfl) (by kernel_rfl) (by kernel_rfl) (fun _ _ _ h => h) (Or.inl ⟨by rfl, fun w hSw => by obtain ⟨s0, s1⟩ := hSw; go_simp⟩) (by assumption) ?_
  simp only [Act.put, List.setIfInBounds_toArray, List.set_cons_zero, List.set_cons_succ]
  refine wpAnyH_done (by kernel_rfl) ?_ _
  go_upto_region 6 with fail
  refine wp_region_held_drew (S := fun w' => w'.cell? ⟨o, 2, none⟩ = some (.int .i64 mb) ∧ w'.cell? ⟨g, 1, none⟩ = some (.int .i64 b) ∧ w'.cell? ⟨g, 2, none⟩ = some (.int .i64 e) ∧ w'.cell? ⟨g, 3, none⟩ = some (.int .i64 v) ∧ w'.cell? ⟨p, 0, none⟩ = some (.int .i64 me) ∧ w'.cell? ⟨p, 1, none⟩ = some (.int .i64 mv)) (by kernel_rfl) ⟨x2, y1, y2, y3, z0, z1⟩ (fun hHeld => ?_)
  refine wpAnyH_take (i := 0) (oi := { dst := some 44, op := Op.move (Operand.tmp 6), type := 4, pos := "cell.go:37", after := #[], guard := none }) (v := (.bool true)) rfl (by kernel_rfl) (by kernel_rfl) (by kernel_rfl) (fun _ _ _ h => h) (Or.inl ⟨by rfl, fun w hSw => by obtain ⟨s0, s1, s2, s3, s4, s5⟩ := hSw; go_simp⟩) (by assumption) ?_
  simp only [Act.put, List.setIfInBounds_toArray, List.set_cons_zero, List.set_cons_succ]
  refine wpAnyH_take (i := 1) (oi := { dst := some 45, op := Op.unOp UnOp.not 4 (Operand.tmp 44), type := 4, pos := "cell.go:37", after := #[{ on := 0, ground := Ground.data }], guard := none }) (v := (.bool false)) rfl (by kernel_rfl) (by kernel_rfl) (by kernel_rfl) (fun _ _ _ h => h) (Or.inl ⟨by rfl, fun w hSw => by obtain ⟨s0, s1, s2, s3, s4, s5⟩ := hSw; go_simp⟩) (by assumption) ?_
  simp only [Act.put, List.setIfInBounds_toArray, List.set_cons_zero, List.set_cons_succ]
  refine wpAnyH_take (i := 2) (oi := { dst := some 46, op := Op.move (Operand.tmp 45), type := 4, pos := "cell.go:37", after := #[{ on := 1, ground := Ground.data }], guard := none }) (v := (.bool false)) rfl (by kernel_rfl) (by kernel_rfl) (by kernel_rfl) (fun _ _ _ h => h) (Or.inl ⟨by rfl, fun w hSw => by obtain ⟨s0, s1, s2, s3, s4, s5⟩ := hSw; go_simp⟩) (by assumption) ?_
  simp only [Act.put, List.setIfInBounds_toArray, List.set_cons_zero, List.set_cons_succ]
  refine wpAnyH_take (i := 3) (oi := { dst := some 47, op := Op.fieldAddr 31 (Operand.tmp 3) 2, type := 0, pos := "cell.go:37", after := #[{ on := 2, ground := Ground.guard }], guard := some (2, true) }) (v := undef) rfl (by kernel_rfl) (by kernel_rfl) (by kernel_rfl) (fun _ _ _ h => h) (Or.inr ⟨by rfl, rfl⟩) (by assumption) ?_
  simp only [Act.put, List.setIfInBounds_toArray, List.set_cons_zero, List.set_cons_succ]
  refine wpAnyH_take (i := 4) (oi := { dst := some 48, op := Op.load 3 (Operand.tmp 47), type := 3, pos := "cell.go:37", after := #[{ on := 3, ground := Ground.data }, { on := 2, ground := Ground.guard }], guard := some (2, true) }) (v := undef) rfl (by kernel_rfl) (by kernel_rfl) (by kernel_rfl) (fun _ _ _ h => h) (Or.inr ⟨by rfl, rfl⟩) (by assumption) ?_
  simp only [Act.put, List.setIfInBounds_toArray, List.set_cons_zero, List.set_cons_succ]
  refine wpAnyH_take (i := 5) (oi := { dst := some 49, op := Op.move (Operand.tmp 0), type := 25, pos := "cell.go:37", after := #[{ on := 2, ground := Ground.guard }], guard := some (2, true) }) (v := undef) rfl (by kernel_rfl) (by kernel_rfl) (by kernel_rfl) (fun _ _ _ h => h) (Or.inr ⟨by rfl, rfl⟩) (by assumption) ?_
  simp only [Act.put, List.setIfInBounds_toArray, List.set_cons_zero, List.set_cons_succ]
  refine wpAnyH_take (i := 6) (oi := { dst := some 50, op := Op.nilCheck (Operand.tmp 49), type := 0, pos := "cell.go:37", after := #[{ on := 5, ground := Ground.data }, { on := 2, ground := Ground.guard }], guard := some (2, true) }) (v := undef) rfl (by kernel_rfl) (by kernel_rfl) (by kernel_rfl) (fun _ _ _ h => h) (Or.inr ⟨by rfl, rfl⟩) (by assumption) ?_
  simp only [Act.put, List.setIfInBounds_toArray, List.set_cons_zero, List.set_cons_succ]
  refine wpAnyH_take (i := 7) (oi := { dst := some 51, op := Op.fieldAddr 51 (Operand.tmp 50) 1, type := 0, pos := "cell.go:37", after := #[{ on := 6, ground := Ground.data }, { on := 2, ground := Ground.guard }], guard := some (2, true) }) (v := undef) rfl (by kernel_rfl) (by kernel_rfl) (by kernel_rfl) (fun _ _ _ h => h) (Or.inr ⟨by rfl, rfl⟩) (by assumption) ?_
  simp only [Act.put, List.setIfInBounds_toArray, List.set_cons_zero, List.set_cons_succ]
  refine wpAnyH_take (i := 8) (oi := { dst := some 52, op := Op.load 3 (Operand.tmp 51), type := 3, pos := "cell.go:37", after := #[{ on := 7, ground := Ground.data }, { on := 2, ground := Ground.guard }], guard := some (2, true) }) (v := undef) rfl (by kernel_rfl) (by kernel_rfl) (by kernel_rfl) (fun _ _ _ h => h) (Or.inr ⟨by rfl, rfl⟩) (by assumption) ?_
  simp only [Act.put, List.setIfInBounds_toArray, List.set_cons_zero, List.set_cons_succ]
  refine wpAnyH_take (i := 9) (oi := { dst := some 53, op := Op.binOp BinOp.neq 3 (Operand.tmp 48) (Operand.tmp 52) 3, type := 4, pos := "cell.go:37", after := #[{ on := 4, ground := Ground.data }, { on := 8, ground := Ground.data }, { on := 2, ground := Ground.guard }], guard := some (2, true) }) (v := undef) rfl (by kernel_rfl) (by kernel_rfl) (by kernel_rfl) (fun _ _ _ h => h) (Or.inr ⟨by rfl, rfl⟩) (by assumption) ?_
  simp only [Act.put, List.setIfInBounds_toArray, List.set_cons_zero, List.set_cons_succ]
  refine wpAnyH_take (i := 10) (oi := { dst := some 54, op := Op.move (Operand.tmp 53), type := 4, pos := "cell.go:37", after := #[{ on := 9, ground := Ground.data }, { on := 2, ground := Ground.chain }, { on := 2, ground := Ground.guard }], guard := some (2, true) }) (v := undef) rfl (by kernel_rfl) (by kernel_rfl) (by kernel_rfl) (fun _ _ _ h => h) (Or.inr ⟨by rfl, rfl⟩) (by assumption) ?_
  simp only [Act.put, List.setIfInBounds_toArray, List.set_cons_zero, List.set_cons_succ]
  refine wpAnyH_take (i := 11) (oi := { dst := some 55, op := Op.move (Operand.tmp 0), type := 25, pos := "cell.go:37", after := #[{ on := 10, ground := Ground.guard }], guard := some (10, false) }) (v := undef) rfl (by kernel_rfl) (by kernel_rfl) (by kernel_rfl) (fun _ _ _ h => h) (Or.inr ⟨by rfl, rfl⟩) (by assumption) ?_
  simp only [Act.put, List.setIfInBounds_toArray, List.set_cons_zero, List.set_cons_succ]
  refine wpAnyH_take (i := 12) (oi := { dst := some 56, op := Op.nilCheck (Operand.tmp 55), type := 0, pos := "cell.go:37", after := #[{ on := 11, ground := Ground.data }, { on := 10, ground := Ground.guard }], guard := some (10, false) }) (v := undef) rfl (by kernel_rfl) (by kernel_rfl) (by kernel_rfl) (fun _ _ _ h => h) (Or.inr ⟨by rfl, rfl⟩) (by assumption) ?_
  simp only [Act.put, List.setIfInBounds_toArray, List.set_cons_zero, List.set_cons_succ]
  refine wpAnyH_take (i := 13) (oi := { dst := some 57, op := Op.fieldAddr 51 (Operand.tmp 56) 2, type := 0, pos := "cell.go:37", after := #[{ on := 12, ground := Ground.data }, { on := 10, ground := Ground.guard }], guard := some (10, false) }) (v := undef) rfl (by kernel_rfl) (by kernel_rfl) (by kernel_rfl) (fun _ _ _ h => h) (Or.inr ⟨by rfl, rfl⟩) (by assumption) ?_
  simp only [Act.put, List.setIfInBounds_toArray, List.set_cons_zero, List.set_cons_succ]
  refine wpAnyH_take (i := 14) (oi := { dst := some 58, op := Op.load 49 (Operand.tmp 57), type := 49, pos := "cell.go:37", after := #[{ on := 13, ground := Ground.data }, { on := 10, ground := Ground.guard }], guard := some (10, false) }) (v := undef) rfl (by kernel_rfl) (by kernel_rfl) (by kernel_rfl) (fun _ _ _ h => h) (Or.inr ⟨by rfl, rfl⟩) (by assumption) ?_
  simp only [Act.put, List.setIfInBounds_toArray, List.set_cons_zero, List.set_cons_succ]
  refine wpAnyH_take (i := 15) (oi := { dst := some 59, op := Op.load 49 (Operand.tmp 5), type := 49, pos := "cell.go:37", after := #[{ on := 10, ground := Ground.guard }], guard := some (10, false) }) (v := undef) rfl (by kernel_rfl) (by kernel_rfl) (by kernel_rfl) (fun _ _ _ h => h) (Or.inr ⟨by rfl, rfl⟩) (by assumption) ?_
  simp only [Act.put, List.setIfInBounds_toArray, List.set_cons_zero, List.set_cons_succ]
  refine wpAnyH_ready (rs := [16]) (by kernel_rfl) (by simp) ?_
  refine AllReadyH.cons (o := { dst := some 60, op := Op.call { callee := Callee.value (Operand.func 22), args := #[Operand.tmp 58, Operand.tmp 59], argTypes := #[49, 49] }, type := 4, pos := "cell.go:37", after := #[{ on := 14, ground := Ground.data }, { on := 15, ground := Ground.data }, { on := 10, ground := Ground.chain }, { on := 10, ground := Ground.guard }], guard := some (10, false) }) rfl (fun K hK => ?_) AllReadyH.nil
  go_simp
  refine hK.out _ _ ⟨x2, y1, y2, y3, z0, z1⟩ (fun hHeld => ?_)
  clear hK K
  try simp only [Act.put, List.setIfInBounds_toArray, List.set_cons_zero, List.set_cons_succ]
  refine wpAnyH_take (i := 17) (oi := { dst := some 61, op := Op.unOp UnOp.not 4 (Operand.tmp 60), type := 4, pos := "cell.go:37", after := #[{ on := 16, ground := Ground.data }, { on := 10, ground := Ground.guard }], guard := some (10, false) }) (v := undef) rfl (by kernel_rfl) (by kernel_rfl) (by kernel_rfl) (fun _ _ _ h => h) (Or.inr ⟨by rfl, rfl⟩) (by assumption) ?_
  simp only [Act.put, List.setIfInBounds_toArray, List.set_cons_zero, List.set_cons_succ]
  refine wpAnyH_take (i := 18) (oi := { dst := some 62, op := Op.pick (Operand.tmp 54) (Operand.const (Value.bool true)) (Operand.tmp 61), type := 4, pos := "cell.go:37", after := #[{ on := 10, ground := Ground.data }, { on := 17, ground := Ground.data }, { on := 2, ground := Ground.guard }], guard := some (2, true) }) (v := undef) rfl (by kernel_rfl) (by kernel_rfl) (by kernel_rfl) (fun _ _ _ h => h) (Or.inr ⟨by rfl, rfl⟩) (by assumption) ?_
  simp only [Act.put, List.setIfInBounds_toArray, List.set_cons_zero, List.set_cons_succ]
  refine wpAnyH_take (i := 19) (oi := { dst := some 63, op := Op.pick (Operand.tmp 46) (Operand.tmp 62) (Operand.const (Value.bool false)), type := 4, pos := "cell.go:37", after := #[{ on := 2, ground := Ground.data }, { on := 18, ground := Ground.data }], guard := none }) (v := (.bool false)) rfl (by kernel_rfl) (by kernel_rfl) (by kernel_rfl) (fun _ _ _ h => h) (Or.inl ⟨by rfl, fun w hSw => by obtain ⟨s0, s1, s2, s3, s4, s5⟩ := hSw; go_simp⟩) (by assumption) ?_
  simp only [Act.put, List.setIfInBounds_toArray, List.set_cons_zero, List.set_cons_succ]
  refine wpAnyH_take (i := 20) (oi := { dst := some 32, op := Op.assign (Operand.tmp 63), type := 4, pos := "cell.go:37", after := #[{ on := 19, ground := Ground.data }, { on := 16, ground := Ground.chain }], guard := none }) (v := (.bool false)) rfl (by kernel_rfl) (by kernel_rfl) (by kernel_rfl) (fun _ _ _ h => h) (Or.inl ⟨by rfl, fun w hSw => by obtain ⟨s0, s1, s2, s3, s4, s5⟩ := hSw; go_simp⟩) (by assumption) ?_
  simp only [Act.put, List.setIfInBounds_toArray, List.set_cons_zero, List.set_cons_succ]
  refine wpAnyH_done (by kernel_rfl) ?_ _
  go_wp2_with fail
  go_ret
  subst hw0
  exact ⟨rfl, done_greet h hB hG3 (HBa.trans (hb4.mono HBa.size))⟩
set_option maxHeartbeats 4000000 in
theorem recv_boot (h : Ce ok 51 w0 w g n b e v u V bs) (hB : Below w0.heap.size w0 w) (hC : Kd.C k35 w A mbs.length mbs) (hc : mbs.length ≤ c) (hml : mbs.length ≤ 2000000000000) (hr : Rt.rightS mk mc mb me mv mu mbs = true) (hk : mk = 1) (hn : mc = n) (hz : mv ≠ 0) (hbo : mb ≠ b) :
    Calls Tryd.prog 11 #[.pointer (some ⟨g, 0, none⟩), .agg #[.int .i64 mk, .int .i64 mc, .int .i64 mb, .int .i64 me, .int .i64 mv, .int .i64 mu, .slice A mbs.length c]] w fun ee w' => ee = .returned (.bool false) ∧ Does ok 51 w0 w w' g n b e v u bs := by
  have t1 : (mk != 1) = false := by simp [hk]
  have t2 : (mc != n) = false := by simp [hn]
  clear hk hn
  have t5 : (mb != b) = true := by simpa using hbo
  clear hbo
  have t3 : (mv == 0) = false := by simpa using hz
  clear hz
  have HBa := below_alloc (Below.refl w.heap.size w) (.cells #[.int .i64 mk, .int .i64 mc, .int .i64 mb, .int .i64 me, .int .i64 mv, .int .i64 mu, .slice A mbs.length c] 31)
  have hO := heap_alloc_new w (.cells #[.int .i64 mk, .int .i64 mc, .int .i64 mb, .int .i64 me, .int .i64 mv, .int .i64 mu, .slice A mbs.length c] 31)
  have h1 := Ce.below h HBa
  have hC1 := Kd.C_below hC HBa
  have hgo : g ≠ w.heap.size := by have := blk_lt h.1; omega
  have hwo := HBa.size
  go_enter Tryd.func11, Tryd.ntmps11
  go_wp2_with fail
  revert HBa hO h1 hC1
  generalize hw0 : w.heap.size = o at *
  generalize w.alloc (.cells #[.int .i64 mk, .int .i64 mc, .int .i64 mb, .int .i64 me, .int .i64 mv, .int .i64 mu, .slice A mbs.length c] 31) = wa at *
  intro HBa hO h1 hC1
  have p0 := (blk_cell hO 0).trans rfl
  have p1 := (blk_cell hO 1).trans rfl
  have p2 := (blk_cell hO 2).trans rfl
  have p3 := (blk_cell hO 3).trans rfl
  have p4 := (blk_cell hO 4).trans rfl
  have p5 := (blk_cell hO 5).trans rfl
  have p6 := (blk_cell hO 6).trans rfl
  have p7 := (blk_cell h1.1 0).trans rfl
  refine wp_region_held_drew (S := fun w' => w'.cell? ⟨o, 0, none⟩ = some (.int .i64 mk) ∧ w'.cell? ⟨o, 1, none⟩ = some (.int .i64 mc) ∧ w'.cell? ⟨o, 2, none⟩ = some (.int .i64 mb) ∧ w'.cell? ⟨o, 3, none⟩ = some (.int .i64 me) ∧ w'.cell? ⟨o, 4, none⟩ = some (.int .i64 mv) ∧ w'.cell? ⟨o, 5, none⟩ = some (.int .i64 mu) ∧ w'.cell? ⟨o, 6, none⟩ = some (.slice A mbs.length c) ∧ w'.cell? ⟨g, 0, none⟩ = some (.int .i64 n)) (by kernel_rfl) ⟨p0, p1, p2, p3, p4, p5, p6, p7⟩ (fun hHeld => ?_)
  refine wpAnyH_take (i := 0) (oi := { dst := some 7, op := Op.load 31 (Operand.tmp 3), type := 31, pos := "cell.go:31", after := #[], guard := none }) (v := (.agg #[.int .i64 mk, .int .i64 mc, .int .i64 mb, .int .i64 me, .int .i64 mv, .int .i64 mu, .slice A mbs.length c])) rfl (by kernel_rfl) (by kernel_rfl) (by kernel_rfl) (fun _ _ _ h => h) (Or.inl ⟨by rfl, fun w hSw => by obtain ⟨s0, s1, s2, s3, s4, s5, s6, s7⟩ := hSw; go_simp⟩) (by assumption) ?_
  simp only [Act.put, List.setIfInBounds_toArray, List.set_cons_zero, List.set_cons_succ]
  refine wpAnyH_ready (rs := [1]) (by kernel_rfl) (by simp) ?_
  refine AllReadyH.cons (o := { dst := some 8, op := Op.call { callee := Callee.value (Operand.func 21), args := #[Operand.tmp 7], argTypes := #[31] }, type := 4, pos := "cell.go:31", after := #[{ on := 0, ground := Ground.data }], guard := none }) rfl (fun K hK => ?_) AllReadyH.nil
  go_simp
  go_at_call 21; refine (msg_Right.calls (mbs.length + 12) mk mc mb me mv mu A c mbs true wa.drew (Kd.C_drew hC1) hc (by rw [Rt.msg_right_eq mbs (by omega), hr])).mono ?_; rintro ee w2 ⟨rfl, hb2⟩; have hb3 : Below wa.heap.size wa w2 := Below.trans (below_drew (Below.refl _ _)) hb2; have hO2 := (hb3.block o (blk_lt hO)).trans hO; have hG2 := (hb3.block g (blk_lt h1.1)).trans h1.1; have hC2 := Kd.C_below hC1 hb3; have q0 := (blk_cell hO2 0).trans rfl; have q1 := (blk_cell hO2 1).trans rfl; have q2 := (blk_cell hO2 2).trans rfl; have q3 := (blk_cell hO2 3).trans rfl; have q4 := (blk_cell hO2 4).trans rfl; have q5 := (blk_cell hO2 5).trans rfl; have q6 := (blk_cell hO2 6).trans rfl; have q7 := (blk_cell hG2 0).trans rfl
  go_wp2_with fail
  refine hK.out _ _ ⟨q0, q1, q2, q3, q4, q5, q6, q7⟩ (fun hHeld => ?_)
  clear hK K
  try simp only [Act.put, List.setIfInBounds_toArray, List.set_cons_zero, List.set_cons_succ]
  refine wpAnyH_take (i := 2) (oi := { dst := some 9, op := Op.unOp UnOp.not 4 (Operand.tmp 8), type := 4, pos := "cell.go:31", after := #[{ on := 1, ground := Ground.data }], guard := none }) (v := (.bool false)) rfl (by kernel_rfl) (by kernel_rfl) (by kernel_rfl) (fun _ _ _ h => h) (Or.inl ⟨by rfl, fun w hSw => by obtain ⟨s0, s1, s2, s3, s4, s5, s6, s7⟩ := hSw; go_simp⟩) (by assumption) ?_
  simp only [Act.put, List.setIfInBounds_toArray, List.set_cons_zero, List.set_cons_succ]
  refine wpAnyH_take (i := 3) (oi := { dst := some 10, op := Op.move (Operand.tmp 9), type := 4, pos := "cell.go:31", after := #[{ on := 2, ground := Ground.data }, { on := 1, ground := Ground.chain }], guard := none }) (v := (.bool false)) rfl (by kernel_rfl) (by kernel_rfl) (by kernel_rfl) (fun _ _ _ h => h) (Or.inl ⟨by rfl, fun w hSw => by obtain ⟨s0, s1, s2, s3, s4, s5, s6, s7⟩ := hSw; go_simp⟩) (by assumption) ?_
  simp only [Act.put, List.setIfInBounds_toArray, List.set_cons_zero, List.set_cons_succ]
  refine wpAnyH_take (i := 4) (oi := { dst := some 11, op := Op.fieldAddr 31 (Operand.tmp 3) 0, type := 0, pos := "cell.go:31", after := #[{ on := 3, ground := Ground.guard }], guard := some (3, false) }) (v := (.pointer (some ⟨o, 0, none⟩))) rfl (by kernel_rfl) (by kernel_rfl) (by kernel_rfl) (fun _ _ _ h => h) (Or.inl ⟨by rfl, fun w hSw => by obtain ⟨s0, s1, s2, s3, s4, s5, s6, s7⟩ := hSw; go_simp⟩) (by assumption) ?_
  simp only [Act.put, List.setIfInBounds_toArray, List.set_cons_zero, List.set_cons_succ]
  refine wpAnyH_take (i := 5) (oi := { dst := some 12, op := Op.load 3 (Operand.tmp 11), type := 3, pos := "cell.go:31", after := #[{ on := 4, ground := Ground.data }, { on := 3, ground := Ground.guard }], guard := some (3, false) }) (v := (.int .i64 mk)) rfl (by kernel_rfl) (by kernel_rfl) (by kernel_rfl) (fun _ _ _ h => h) (Or.inl ⟨by rfl, fun w hSw => by obtain ⟨s0, s1, s2, s3, s4, s5, s6, s7⟩ := hSw; go_simp⟩) (by assumption) ?_
  simp only [Act.put, List.setIfInBounds_toArray, List.set_cons_zero, List.set_cons_succ]
  refine wpAnyH_take (i := 6) (oi := { dst := some 13, op := Op.binOp BinOp.neq 3 (Operand.tmp 12) (Operand.const (Value.int IntKind.i64 1)) 3, type := 4, pos := "cell.go:31", after := #[{ on := 5, ground := Ground.data }, { on := 3, ground := Ground.guard }], guard := some (3, false) }) (v := (.bool false)) rfl (by kernel_rfl) (by kernel_rfl) (by kernel_rfl) (fun _ _ _ h => h) (Or.inl ⟨by rfl, fun w hSw => by obtain ⟨s0, s1, s2, s3, s4, s5, s6, s7⟩ := hSw; go_simp⟩) (by assumption) ?_
  simp only [Act.put, List.setIfInBounds_toArray, List.set_cons_zero, List.set_cons_succ]
  refine wpAnyH_take (i := 7) (oi := { dst := some 14, op := Op.pick (Operand.tmp 10) (Operand.const (Value.bool true)) (Operand.tmp 13), type := 4, pos := "cell.go:31", after := #[{ on := 3, ground := Ground.data }, { on := 6, ground := Ground.data }], guard := none }) (v := (.bool false)) rfl (by kernel_rfl) (by kernel_rfl) (by kernel_rfl) (fun _ _ _ h => h) (Or.inl ⟨by rfl, fun w hSw => by obtain ⟨s0, s1, s2, s3, s4, s5, s6, s7⟩ := hSw; go_simp⟩) (by assumption) ?_
  simp only [Act.put, List.setIfInBounds_toArray, List.set_cons_zero, List.set_cons_succ]
  refine wpAnyH_take (i := 8) (oi := { dst := some 15, op := Op.move (Operand.tmp 14), type := 4, pos := "cell.go:31", after := #[{ on := 7, ground := Ground.data }, { on := 3, ground := Ground.chain }], guard := none }) (v := (.bool false)) rfl (by kernel_rfl) (by kernel_rfl) (by kernel_rfl) (fun _ _ _ h => h) (Or.inl ⟨by rfl, fun w hSw => by obtain ⟨s0, s1, s2, s3, s4, s5, s6, s7⟩ := hSw; go_simp⟩) (by assumption) ?_
  simp only [Act.put, List.setIfInBounds_toArray, List.set_cons_zero, List.set_cons_succ]
  refine wpAnyH_take (i := 9) (oi := { dst := some 16, op := Op.fieldAddr 31 (Operand.tmp 3) 1, type := 0, pos := "cell.go:31", after := #[{ on := 8, ground := Ground.guard }], guard := some (8, false) }) (v := (.pointer (some ⟨o, 1, none⟩))) rfl (by kernel_rfl) (by kernel_rfl) (by kernel_rfl) (fun _ _ _ h => h) (Or.inl ⟨by rfl, fun w hSw => by obtain ⟨s0, s1, s2, s3, s4, s5, s6, s7⟩ := hSw; go_simp⟩) (by assumption) ?_
  simp only [Act.put, List.setIfInBounds_toArray, List.set_cons_zero, List.set_cons_succ]
  refine wpAnyH_take (i := 10) (oi := { dst := some 17, op := Op.load 3 (Operand.tmp 16), type := 3, pos := "cell.go:31", after := #[{ on := 9, ground := Ground.data }, { on := 8, ground := Ground.guard }], guard := some (8, false) }) (v := (.int .i64 mc)) rfl (by kernel_rfl) (by kernel_rfl) (by kernel_rfl) (fun _ _ _ h => h) (Or.inl ⟨by rfl, fun w hSw => by obtain ⟨s0, s1, s2, s3, s4, s5, s6, s7⟩ := hSw; go_simp⟩) (by assumption) ?_
  simp only [Act.put, List.setIfInBounds_toArray, List.set_cons_zero, List.set_cons_succ]
  refine wpAnyH_take (i := 11) (oi := { dst := some 18, op := Op.move (Operand.tmp 0), type := 25, pos := "cell.go:31", after := #[{ on := 8, ground := Ground.guard }], guard := some (8, false) }) (v := (.pointer (some ⟨g, 0, none⟩))) rfl (by kernel_rfl) (by kernel_rfl) (by kernel_rfl) (fun _ _ _ h => h) (Or.inl ⟨by rfl, fun w hSw => by obtain ⟨s0, s1, s2, s3, s4, s5, s6, s7⟩ := hSw; go_simp⟩) (by assumption) ?_
  simp only [Act.put, List.setIfInBounds_toArray, List.set_cons_zero, List.set_cons_succ]
  refine wpAnyH_take (i := 12) (oi := { dst := some 19, op := Op.nilCheck (Operand.tmp 18), type := 0, pos := "cell.go:31", after := #[{ on := 11, ground := Ground.data }, { on := 8, ground := Ground.guard }], guard := some (8, false) }) (v := (.pointer (some ⟨g, 0, none⟩))) rfl (by kernel_rfl) (by kernel_rfl) (by kernel_rfl) (fun _ _ _ h => h) (Or.inl ⟨by rfl, fun w hSw => by obtain ⟨s0, s1, s2, s3, s4, s5, s6, s7⟩ := hSw; go_simp⟩) (by assumption) ?_
  simp only [Act.put, List.setIfInBounds_toArray, List.set_cons_zero, List.set_cons_succ]
  refine wpAnyH_take (i := 13) (oi := { dst := some 20, op := Op.fieldAddr 51 (Operand.tmp 19) 0, type := 0, pos := "cell.go:31", after := #[{ on := 12, ground := Ground.data }, { on := 8, ground := Ground.guard }], guard := some (8, false) }) (v := (.pointer (some ⟨g, 0, none⟩))) rfl (by kernel_rfl) (by kernel_rfl) (by kernel_rfl) (fun _ _ _ h => h) (Or.inl ⟨by rfl, fun w hSw => by obtain ⟨s0, s1, s2, s3, s4, s5, s6, s7⟩ := hSw; go_simp⟩) (by assumption) ?_
  simp only [Act.put, List.setIfInBounds_toArray, List.set_cons_zero, List.set_cons_succ]
  refine wpAnyH_take (i := 14) (oi := { dst := some 21, op := Op.load 3 (Operand.tmp 20), type := 3, pos := "cell.go:31", after := #[{ on := 13, ground := Ground.data }, { on := 8, ground := Ground.guard }], guard := some (8, false) }) (v := (.int .i64 n)) rfl (by kernel_rfl) (by kernel_rfl) (by kernel_rfl) (fun _ _ _ h => h) (Or.inl ⟨by rfl, fun w hSw => by obtain ⟨s0, s1, s2, s3, s4, s5, s6, s7⟩ := hSw; go_simp⟩) (by assumption) ?_
  simp only [Act.put, List.setIfInBounds_toArray, List.set_cons_zero, List.set_cons_succ]
  refine wpAnyH_take (i := 15) (oi := { dst := some 22, op := Op.binOp BinOp.neq 3 (Operand.tmp 17) (Operand.tmp 21) 3, type := 4, pos := "cell.go:31", after := #[{ on := 10, ground := Ground.data }, { on := 14, ground := Ground.data }, { on := 8, ground := Ground.guard }], guard := some (8, false) }) (v := (.bool false)) rfl (by kernel_rfl) (by kernel_rfl) (by kernel_rfl) (fun _ _ _ h => h) (Or.inl ⟨by rfl, fun w hSw => by obtain ⟨s0, s1, s2, s3, s4, s5, s6, s7⟩ := hSw; go_simp⟩) (by assumption) ?_
  simp only [Act.put, List.setIfInBounds_toArray, List.set_cons_zero, List.set_cons_succ]
  refine wpAnyH_take (i := 16) (oi := { dst := some 23, op := Op.pick (Operand.tmp 15) (Operand.const (Value.bool true)) (Operand.tmp 22), type := 4, pos := "cell.go:31", after := #[{ on := 8, ground := Ground.data }, { on := 15, ground := Ground.data }], guard := none }) (v := (.bool false)) rfl (by kernel_rfl) (by kernel_rfl) (by kernel_rfl) (fun _ _ _ h => h) (Or.inl ⟨by rfl, fun w hSw => by obtain ⟨s0, s1, s2, s3, s4, s5, s6, s7⟩ := hSw; go_simp⟩) (by assumption) ?_
  simp only [Act.put, List.setIfInBounds_toArray, List.set_cons_zero, List.set_cons_succ]
  refine wpAnyH_done (by kernel_rfl) ?_ _
  have hbA := below_alloc (Below.refl w2.heap.size w2) (.cells #[.int .i64 me, .int .i64 mv] 49)
  have hP := heap_alloc_new w2 (.cells #[.int .i64 me, .int .i64 mv] 49)
  have hO3 := (hbA.block o (blk_lt hO2)).trans hO2
  have hG3 := (hbA.block g (blk_lt hG2)).trans hG2
  have hC3 := Kd.C_below hC2 hbA
  have hb4 := hb3.trans (hbA.mono hb3.size)
  have x4 := (blk_cell hO3 4).trans rfl
  go_upto_region 5 with fail
  clear x4
  revert hP hO3 hG3 hC3 hb4
  generalize hw2 : w2.heap.size = p at *
  generalize w2.alloc (.cells #[.int .i64 me, .int .i64 mv] 49) = w3 at *
  intro hP hO3 hG3 hC3 hb4
  clear hbA q0 q1 q2 q3 q4 q5 q6 q7 p0 p1 p2 p3 p4 p5 p6 p7
  have x0 := (blk_cell hO3 0).trans rfl
  have x1 := (blk_cell hO3 1).trans rfl
  have x2 := (blk_cell hO3 2).trans rfl
  have x3 := (blk_cell hO3 3).trans rfl
  have x4 := (blk_cell hO3 4).trans rfl
  have x5 := (blk_cell hO3 5).trans rfl
  have x6 := (blk_cell hO3 6).trans rfl
  have y0 := (blk_cell hG3 0).trans rfl
  have y1 := (blk_cell hG3 1).trans rfl
  have y2 := (blk_cell hG3 2).trans rfl
  have y3 := (blk_cell hG3 3).trans rfl
  have y4 := (blk_cell hG3 4).trans rfl
  have y5 := (blk_cell hG3 5).trans rfl
  have fg2 := blk_frozen hG3 2
  have fg3 := blk_frozen hG3 3
  have z0 := (blk_cell hP 0).trans rfl
  have z1 := (blk_cell hP 1).trans rfl
  refine wp_region_held_drew (S := fun w' => w'.cell? ⟨o, 3, none⟩ = some (.int .i64 me) ∧ w'.cell? ⟨g, 2, none⟩ = some (.int .i64 e)) (by kernel_rfl) ⟨x3, y2⟩ (fun hHeld => ?_)
  refine wpAnyH_take (i := 0) (oi := { dst := some 33, op := Op.move (Operand.tmp 6), type := 4, pos := "cell.go:37", after := #[], guard := none }) (v := (.bool false)) rfl (by kernel_rfl) (by kernel_rfl) (by kernel_rfl) (fun _ _ _ h => h) (Or.inl ⟨by rfl, fun w hSw => by obtain ⟨s0, s1⟩ := hSw; go_simp⟩) (by assumption) ?_
  simp only [Act.put, List.setIfInBounds_toArray, List.set_cons_zero, List.set_cons_succ]
  refine wpAnyH_take (i := 1) (oi := { dst := some 34, op := Op.move (Operand.tmp 33), type := 4, pos := "cell.go:37", after := #[{ on := 0, ground := Ground.data }], guard := none }) (v := (.bool false)) rfl (by kernel_rfl) (by kernel_rfl) (by kernel_rfl) (fun _ _ _ h => h) (Or.inl ⟨by rfl, fun w hSw => by obtain ⟨s0, s1⟩ := hSw; go_simp⟩) (by assumption) ?_
  simp only [Act.put, List.setIfInBounds_toArray, List.set_cons_zero, List.set_cons_succ]
  refine wpAnyH_take (i := 2) (oi := { dst := some 35, op := Op.fieldAddr 31 (Operand.tmp 3) 3, type := 0, pos := "cell.go:37", after := #[{ on := 1, ground := Ground.guard }], guard := some (1, true) }) (v := undef) rfl (by kernel_rfl) (by kernel_rfl) (by kernel_rfl) (fun _ _ _ h => h) (Or.inr ⟨by rfl, rfl⟩) (by assumption) ?_
  simp only [Act.put, List.setIfInBounds_toArray, List.set_cons_zero, List.set_cons_succ]
  refine wpAnyH_take (i := 3) (oi := { dst := some 36, op := Op.load 3 (Operand.tmp 35), type := 3, pos := "cell.go:37", after := #[{ on := 2, ground := Ground.data }, { on := 1, ground := Ground.guard }], guard := some (1, true) }) (v := undef) rfl (by kernel_rfl) (by kernel_rfl) (by kernel_rfl) (fun _ _ _ h => h) (Or.inr ⟨by rfl, rfl⟩) (by assumption) ?_
  simp only [Act.put, List.setIfInBounds_toArray, List.set_cons_zero, List.set_cons_succ]
  refine wpAnyH_take (i := 4) (oi := { dst := some 37, op := Op.move (Operand.tmp 0), type := 25, pos := "cell.go:37", after := #[{ on := 1, ground := Ground.guard }], guard := some (1, true) }) (v := undef) rfl (by kernel_rfl) (by kernel_rfl) (by kernel_rfl) (fun _ _ _ h => h) (Or.inr ⟨by rfl, rfl⟩) (by assumption) ?_
  simp only [Act.put, List.setIfInBounds_toArray, List.set_cons_zero, List.set_cons_succ]
  refine wpAnyH_take (i := 5) (oi := { dst := some 38, op := Op.nilCheck (Operand.tmp 37), type := 0, pos := "cell.go:37", after := #[{ on := 4, ground := Ground.data }, { on := 1, ground := Ground.guard }], guard := some (1, true) }) (v := undef) rfl (by kernel_rfl) (by kernel_rfl) (by kernel_rfl) (fun _ _ _ h => h) (Or.inr ⟨by rfl, rfl⟩) (by assumption) ?_
  simp only [Act.put, List.setIfInBounds_toArray, List.set_cons_zero, List.set_cons_succ]
  refine wpAnyH_take (i := 6) (oi := { dst := some 39, op := Op.fieldAddr 51 (Operand.tmp 38) 2, type := 0, pos := "cell.go:37", after := #[{ on := 5, ground := Ground.data }, { on := 1, ground := Ground.guard }], guard := some (1, true) }) (v := undef) rfl (by kernel_rfl) (by kernel_rfl) (by kernel_rfl) (fun _ _ _ h => h) (Or.inr ⟨by rfl, rfl⟩) (by assumption) ?_
  simp only [Act.put, List.setIfInBounds_toArray, List.set_cons_zero, List.set_cons_succ]
  refine wpAnyH_take (i := 7) (oi := { dst := some 40, op := Op.indexAddr 49 (Operand.tmp 39) (Operand.const (Value.int IntKind.i64 0)), type := 0, pos := "cell.go:37", after := #[{ on := 6, ground := Ground.data }, { on := 1, ground := Ground.guard }], guard := some (1, true) }) (v := undef) rfl (by kernel_rfl) (by kernel_rfl) (by kernel_rfl) (fun _ _ _ h => h) (Or.inr ⟨by rfl, rfl⟩) (by assumption) ?_
  simp only [Act.put, List.setIfInBounds_toArray, List.set_cons_zero, List.set_cons_succ]
  refine wpAnyH_take (i := 8) (oi := { dst := some 41, op := Op.load 3 (Operand.tmp 40), type := 3, pos := "cell.go:37", after := #[{ on := 7, ground := Ground.data }, { on := 1, ground := Ground.guard }], guard := some (1, true) }) (v := undef) rfl (by kernel_rfl) (by kernel_rfl) (by kernel_rfl) (fun _ _ _ h => h) (Or.inr ⟨by rfl, rfl⟩) (by assumption) ?_
  simp only [Act.put, List.setIfInBounds_toArray, List.set_cons_zero, List.set_cons_succ]
  refine wpAnyH_take (i := 9) (oi := { dst := some 42, op := Op.binOp BinOp.leq 3 (Operand.tmp 36) (Operand.tmp 41) 3, type := 4, pos := "cell.go:37", after := #[{ on := 3, ground := Ground.data }, { on := 8, ground := Ground.data }, { on := 1, ground := Ground.guard }], guard := some (1, true) }) (v := undef) rfl (by kernel_rfl) (by kernel_rfl) (by kernel_rfl) (fun _ _ _ h => h) (Or.inr ⟨by rfl, rfl⟩) (by assumption) ?_
  simp only [Act.put, List.setIfInBounds_toArray, List.set_cons_zero, List.set_cons_succ]
  refine wpAnyH_take (i := 10) (oi := { dst := some 43, op := Op.pick (Operand.tmp 34) (Operand.tmp 42) (Operand.const (Value.bool false)), type := 4, pos := "cell.go:37", after := #[{ on := 1, ground := Ground.data }, { on := 9, ground := Ground.data }], guard := none }) (v := (.bool false)) rfl (by kernel_rfl) (by kernel_rfl) (by kernel_rfl) (fun _ _ _ h => h) (Or.inl ⟨by rfl, fun w hSw => by obtain ⟨s0, s1⟩ := hSw; go_simp⟩) (by assumption) ?_
  simp only [Act.put, List.setIfInBounds_toArray, List.set_cons_zero, List.set_cons_succ]
  refine wpAnyH_take (i := 11) (oi := { dst := some 32, op := Op.assign (Operand.tmp 43), type := 4, pos := "cell.go:37", after := #[{ on := 10, ground := Ground.data }, { on := 1, ground := Ground.chain }], guard := none }) (v := (.bool false)) rfl (by kernel_rfl) (by kernel_rfl) (by kernel_rfl) (fun _ _ _ h => h) (Or.inl ⟨by rfl, fun w hSw => by obtain ⟨s0, s1⟩ := hSw; go_simp⟩) (by assumption) ?_
  simp only [Act.put, List.setIfInBounds_toArray, List.set_cons_zero, List.set_cons_succ]
  refine wpAnyH_done (by kernel_rfl) ?_ _
  go_upto_region 6 with fail
  refine wp_region_held_drew (S := fun w' => w'.cell? ⟨o, 2, none⟩ = some (.int .i64 mb) ∧ w'.cell? ⟨g, 1, none⟩ = some (.int .i64 b) ∧ w'.cell? ⟨g, 2, none⟩ = some (.int .i64 e) ∧ w'.cell? ⟨g, 3, none⟩ = some (.int .i64 v) ∧ w'.cell? ⟨p, 0, none⟩ = some (.int .i64 me) ∧ w'.cell? ⟨p, 1, none⟩ = some (.int .i64 mv)) (by kernel_rfl) ⟨x2, y1, y2, y3, z0, z1⟩ (fun hHeld => ?_)
  refine wpAnyH_take (i := 0) (oi := { dst := some 44, op := Op.move (Operand.tmp 6), type := 4, pos := "cell.go:37", after := #[], guard := none }) (v := (.bool false)) rfl (by kernel_rfl) (by kernel_rfl) (by kernel_rfl) (fun _ _ _ h => h) (Or.inl ⟨by rfl, fun w hSw => by obtain ⟨s0, s1, s2, s3, s4, s5⟩ := hSw; go_simp⟩) (by assumption) ?_
  simp only [Act.put, List.setIfInBounds_toArray, List.set_cons_zero, List.set_cons_succ]
  refine wpAnyH_take (i := 1) (oi := { dst := some 45, op := Op.unOp UnOp.not 4 (Operand.tmp 44), type := 4, pos := "cell.go:37", after := #[{ on := 0, ground := Ground.data }], guard := none }) (v := (.bool true)) rfl (by kernel_rfl) (by kernel_rfl) (by kernel_rfl) (fun _ _ _ h => h) (Or.inl ⟨by rfl, fun w hSw => by obtain ⟨s0, s1, s2, s3, s4, s5⟩ := hSw; go_simp⟩) (by assumption) ?_
  simp only [Act.put, List.setIfInBounds_toArray, List.set_cons_zero, List.set_cons_succ]
  refine wpAnyH_take (i := 2) (oi := { dst := some 46, op := Op.move (Operand.tmp 45), type := 4, pos := "cell.go:37", after := #[{ on := 1, ground := Ground.data }], guard := none }) (v := (.bool true)) rfl (by kernel_rfl) (by kernel_rfl) (by kernel_rfl) (fun _ _ _ h => h) (Or.inl ⟨by rfl, fun w hSw => by obtain ⟨s0, s1, s2, s3, s4, s5⟩ := hSw; go_simp⟩) (by assumption) ?_
  simp only [Act.put, List.setIfInBounds_toArray, List.set_cons_zero, List.set_cons_succ]
  refine wpAnyH_take (i := 3) (oi := { dst := some 47, op := Op.fieldAddr 31 (Operand.tmp 3) 2, type := 0, pos := "cell.go:37", after := #[{ on := 2, ground := Ground.guard }], guard := some (2, true) }) (v := (.pointer (some ⟨o, 2, none⟩))) rfl (by kernel_rfl) (by kernel_rfl) (by kernel_rfl) (fun _ _ _ h => h) (Or.inl ⟨by rfl, fun w hSw => by obtain ⟨s0, s1, s2, s3, s4, s5⟩ := hSw; go_simp⟩) (by assumption) ?_
  simp only [Act.put, List.setIfInBounds_toArray, List.set_cons_zero, List.set_cons_succ]
  refine wpAnyH_take (i := 4) (oi := { dst := some 48, op := Op.load 3 (Operand.tmp 47), type := 3, pos := "cell.go:37", after := #[{ on := 3, ground := Ground.data }, { on := 2, ground := Ground.guard }], guard := some (2, true) }) (v := (.int .i64 mb)) rfl (by kernel_rfl) (by kernel_rfl) (by kernel_rfl) (fun _ _ _ h => h) (Or.inl ⟨by rfl, fun w hSw => by obtain ⟨s0, s1, s2, s3, s4, s5⟩ := hSw; go_simp⟩) (by assumption) ?_
  simp only [Act.put, List.setIfInBounds_toArray, List.set_cons_zero, List.set_cons_succ]
  refine wpAnyH_take (i := 5) (oi := { dst := some 49, op := Op.move (Operand.tmp 0), type := 25, pos := "cell.go:37", after := #[{ on := 2, ground := Ground.guard }], guard := some (2, true) }) (v := (.pointer (some ⟨g, 0, none⟩))) rfl (by kernel_rfl) (by kernel_rfl) (by kernel_rfl) (fun _ _ _ h => h) (Or.inl ⟨by rfl, fun w hSw => by obtain ⟨s0, s1, s2, s3, s4, s5⟩ := hSw; go_simp⟩) (by assumption) ?_
  simp only [Act.put, List.setIfInBounds_toArray, List.set_cons_zero, List.set_cons_succ]
  refine wpAnyH_take (i := 6) (oi := { dst := some 50, op := Op.nilCheck (Operand.tmp 49), type := 0, pos := "cell.go:37", after := #[{ on := 5, ground := Ground.data }, { on := 2, ground := Ground.guard }], guard := some (2, true) }) (v := (.pointer (some ⟨g, 0, none⟩))) rfl (by kernel_rfl) (by kernel_rfl) (by kernel_rfl) (fun _ _ _ h => h) (Or.inl ⟨by rfl, fun w hSw => by obtain ⟨s0, s1, s2, s3, s4, s5⟩ := hSw; go_simp⟩) (by assumption) ?_
  simp only [Act.put, List.setIfInBounds_toArray, List.set_cons_zero, List.set_cons_succ]
  refine wpAnyH_take (i := 7) (oi := { dst := some 51, op := Op.fieldAddr 51 (Operand.tmp 50) 1, type := 0, pos := "cell.go:37", after := #[{ on := 6, ground := Ground.data }, { on := 2, ground := Ground.guard }], guard := some (2, true) }) (v := (.pointer (some ⟨g, 1, none⟩))) rfl (by kernel_rfl) (by kernel_rfl) (by kernel_rfl) (fun _ _ _ h => h) (Or.inl ⟨by rfl, fun w hSw => by obtain ⟨s0, s1, s2, s3, s4, s5⟩ := hSw; go_simp⟩) (by assumption) ?_
  simp only [Act.put, List.setIfInBounds_toArray, List.set_cons_zero, List.set_cons_succ]
  refine wpAnyH_take (i := 8) (oi := { dst := some 52, op := Op.load 3 (Operand.tmp 51), type := 3, pos := "cell.go:37", after := #[{ on := 7, ground := Ground.data }, { on := 2, ground := Ground.guard }], guard := some (2, true) }) (v := (.int .i64 b)) rfl (by kernel_rfl) (by kernel_rfl) (by kernel_rfl) (fun _ _ _ h => h) (Or.inl ⟨by rfl, fun w hSw => by obtain ⟨s0, s1, s2, s3, s4, s5⟩ := hSw; go_simp⟩) (by assumption) ?_
  simp only [Act.put, List.setIfInBounds_toArray, List.set_cons_zero, List.set_cons_succ]
  refine wpAnyH_take (i := 9) (oi := { dst := some 53, op := Op.binOp BinOp.neq 3 (Operand.tmp 48) (Operand.tmp 52) 3, type := 4, pos := "cell.go:37", after := #[{ on := 4, ground := Ground.data }, { on := 8, ground := Ground.data }, { on := 2, ground := Ground.guard }], guard := some (2, true) }) (v := (.bool true)) rfl (by kernel_rfl) (by kernel_rfl) (by kernel_rfl) (fun _ _ _ h => h) (Or.inl ⟨by rfl, fun w hSw => by obtain ⟨s0, s1, s2, s3, s4, s5⟩ := hSw; go_simp⟩) (by assumption) ?_
  simp only [Act.put, List.setIfInBounds_toArray, List.set_cons_zero, List.set_cons_succ]
  refine wpAnyH_take (i := 10) (oi := { dst := some 54, op := Op.move (Operand.tmp 53), type := 4, pos := "cell.go:37", after := #[{ on := 9, ground := Ground.data }, { on := 2, ground := Ground.chain }, { on := 2, ground := Ground.guard }], guard := some (2, true) }) (v := (.bool true)) rfl (by kernel_rfl) (by kernel_rfl) (by kernel_rfl) (fun _ _ _ h => h) (Or.inl ⟨by rfl, fun w hSw => by obtain ⟨s0, s1, s2, s3, s4, s5⟩ := hSw; go_simp⟩) (by assumption) ?_
  simp only [Act.put, List.setIfInBounds_toArray, List.set_cons_zero, List.set_cons_succ]
  refine wpAnyH_take (i := 11) (oi := { dst := some 55, op := Op.move (Operand.tmp 0), type := 25, pos := "cell.go:37", after := #[{ on := 10, ground := Ground.guard }], guard := some (10, false) }) (v := undef) rfl (by kernel_rfl) (by kernel_rfl) (by kernel_rfl) (fun _ _ _ h => h) (Or.inr ⟨by rfl, rfl⟩) (by assumption) ?_
  simp only [Act.put, List.setIfInBounds_toArray, List.set_cons_zero, List.set_cons_succ]
  refine wpAnyH_take (i := 12) (oi := { dst := some 56, op := Op.nilCheck (Operand.tmp 55), type := 0, pos := "cell.go:37", after := #[{ on := 11, ground := Ground.data }, { on := 10, ground := Ground.guard }], guard := some (10, false) }) (v := undef) rfl (by kernel_rfl) (by kernel_rfl) (by kernel_rfl) (fun _ _ _ h => h) (Or.inr ⟨by rfl, rfl⟩) (by assumption) ?_
  simp only [Act.put, List.setIfInBounds_toArray, List.set_cons_zero, List.set_cons_succ]
  refine wpAnyH_take (i := 13) (oi := { dst := some 57, op := Op.fieldAddr 51 (Operand.tmp 56) 2, type := 0, pos := "cell.go:37", after := #[{ on := 12, ground := Ground.data }, { on := 10, ground := Ground.guard }], guard := some (10, false) }) (v := undef) rfl (by kernel_rfl) (by kernel_rfl) (by kernel_rfl) (fun _ _ _ h => h) (Or.inr ⟨by rfl, rfl⟩) (by assumption) ?_
  simp only [Act.put, List.setIfInBounds_toArray, List.set_cons_zero, List.set_cons_succ]
  refine wpAnyH_take (i := 14) (oi := { dst := some 58, op := Op.load 49 (Operand.tmp 57), type := 49, pos := "cell.go:37", after := #[{ on := 13, ground := Ground.data }, { on := 10, ground := Ground.guard }], guard := some (10, false) }) (v := undef) rfl (by kernel_rfl) (by kernel_rfl) (by kernel_rfl) (fun _ _ _ h => h) (Or.inr ⟨by rfl, rfl⟩) (by assumption) ?_
  simp only [Act.put, List.setIfInBounds_toArray, List.set_cons_zero, List.set_cons_succ]
  refine wpAnyH_take (i := 15) (oi := { dst := some 59, op := Op.load 49 (Operand.tmp 5), type := 49, pos := "cell.go:37", after := #[{ on := 10, ground := Ground.guard }], guard := some (10, false) }) (v := undef) rfl (by kernel_rfl) (by kernel_rfl) (by kernel_rfl) (fun _ _ _ h => h) (Or.inr ⟨by rfl, rfl⟩) (by assumption) ?_
  simp only [Act.put, List.setIfInBounds_toArray, List.set_cons_zero, List.set_cons_succ]
  refine wpAnyH_ready (rs := [16]) (by kernel_rfl) (by simp) ?_
  refine AllReadyH.cons (o := { dst := some 60, op := Op.call { callee := Callee.value (Operand.func 22), args := #[Operand.tmp 58, Operand.tmp 59], argTypes := #[49, 49] }, type := 4, pos := "cell.go:37", after := #[{ on := 14, ground := Ground.data }, { on := 15, ground := Ground.data }, { on := 10, ground := Ground.chain }, { on := 10, ground := Ground.guard }], guard := some (10, false) }) rfl (fun K hK => ?_) AllReadyH.nil
  go_simp
  refine hK.out _ _ ⟨x2, y1, y2, y3, z0, z1⟩ (fun hHeld => ?_)
  clear hK K
  try simp only [Act.put, List.setIfInBounds_toArray, List.set_cons_zero, List.set_cons_succ]
  refine wpAnyH_take (i := 17) (oi := { dst := some 61, op := Op.unOp UnOp.not 4 (Operand.tmp 60), type := 4, pos := "cell.go:37", after := #[{ on := 16, ground := Ground.data }, { on := 10, ground := Ground.guard }], guard := some (10, false) }) (v := undef) rfl (by kernel_rfl) (by kernel_rfl) (by kernel_rfl) (fun _ _ _ h => h) (Or.inr ⟨by rfl, rfl⟩) (by assumption) ?_
  simp only [Act.put, List.setIfInBounds_toArray, List.set_cons_zero, List.set_cons_succ]
  refine wpAnyH_take (i := 18) (oi := { dst := some 62, op := Op.pick (Operand.tmp 54) (Operand.const (Value.bool true)) (Operand.tmp 61), type := 4, pos := "cell.go:37", after := #[{ on := 10, ground := Ground.data }, { on := 17, ground := Ground.data }, { on := 2, ground := Ground.guard }], guard := some (2, true) }) (v := (.bool true)) rfl (by kernel_rfl) (by kernel_rfl) (by kernel_rfl) (fun _ _ _ h => h) (Or.inl ⟨by rfl, fun w hSw => by obtain ⟨s0, s1, s2, s3, s4, s5⟩ := hSw; go_simp⟩) (by assumption) ?_
  simp only [Act.put, List.setIfInBounds_toArray, List.set_cons_zero, List.set_cons_succ]
  refine wpAnyH_take (i := 19) (oi := { dst := some 63, op := Op.pick (Operand.tmp 46) (Operand.tmp 62) (Operand.const (Value.bool false)), type := 4, pos := "cell.go:37", after := #[{ on := 2, ground := Ground.data }, { on := 18, ground := Ground.data }], guard := none }) (v := (.bool true)) rfl (by kernel_rfl) (by kernel_rfl) (by kernel_rfl) (fun _ _ _ h => h) (Or.inl ⟨by rfl, fun w hSw => by obtain ⟨s0, s1, s2, s3, s4, s5⟩ := hSw; go_simp⟩) (by assumption) ?_
  simp only [Act.put, List.setIfInBounds_toArray, List.set_cons_zero, List.set_cons_succ]
  refine wpAnyH_take (i := 20) (oi := { dst := some 32, op := Op.assign (Operand.tmp 63), type := 4, pos := "cell.go:37", after := #[{ on := 19, ground := Ground.data }, { on := 16, ground := Ground.chain }], guard := none }) (v := (.bool true)) rfl (by kernel_rfl) (by kernel_rfl) (by kernel_rfl) (fun _ _ _ h => h) (Or.inl ⟨by rfl, fun w hSw => by obtain ⟨s0, s1, s2, s3, s4, s5⟩ := hSw; go_simp⟩) (by assumption) ?_
  simp only [Act.put, List.setIfInBounds_toArray, List.set_cons_zero, List.set_cons_succ]
  refine wpAnyH_done (by kernel_rfl) ?_ _
  go_wp2_with fail
  go_ret
  subst hw0
  exact ⟨rfl, Does.same h hB ((HBa.trans (hb4.mono HBa.size)).drew.drew)⟩
set_option maxHeartbeats 4000000 in
theorem recv_stale (h : Ce ok 51 w0 w g n b e v u V bs) (hB : Below w0.heap.size w0 w) (hC : Kd.C k35 w A mbs.length mbs) (hc : mbs.length ≤ c) (hml : mbs.length ≤ 2000000000000) (hr : Rt.rightS mk mc mb me mv mu mbs = true) (hk : mk = 1) (hn : mc = n) (hz : mv ≠ 0) (hbo : mb = b) (hah : aheadS e v me mv = false) :
    Calls Tryd.prog 11 #[.pointer (some ⟨g, 0, none⟩), .agg #[.int .i64 mk, .int .i64 mc, .int .i64 mb, .int .i64 me, .int .i64 mv, .int .i64 mu, .slice A mbs.length c]] w fun ee w' => ee = .returned (.bool false) ∧ Does ok 51 w0 w w' g n b e v u bs := by
  have t1 : (mk != 1) = false := by simp [hk]
  have t2 : (mc != n) = false := by simp [hn]
  clear hk hn
  have t5 : (mb != b) = false := by simp [hbo]
  clear hbo
  have t3 : (mv == 0) = false := by simpa using hz
  clear hz
  have HBa := below_alloc (Below.refl w.heap.size w) (.cells #[.int .i64 mk, .int .i64 mc, .int .i64 mb, .int .i64 me, .int .i64 mv, .int .i64 mu, .slice A mbs.length c] 31)
  have hO := heap_alloc_new w (.cells #[.int .i64 mk, .int .i64 mc, .int .i64 mb, .int .i64 me, .int .i64 mv, .int .i64 mu, .slice A mbs.length c] 31)
  have h1 := Ce.below h HBa
  have hC1 := Kd.C_below hC HBa
  have hgo : g ≠ w.heap.size := by have := blk_lt h.1; omega
  have hwo := HBa.size
  go_enter Tryd.func11, Tryd.ntmps11
  go_wp2_with fail
  revert HBa hO h1 hC1
  generalize hw0 : w.heap.size = o at *
  generalize w.alloc (.cells #[.int .i64 mk, .int .i64 mc, .int .i64 mb, .int .i64 me, .int .i64 mv, .int .i64 mu, .slice A mbs.length c] 31) = wa at *
  intro HBa hO h1 hC1
  have p0 := (blk_cell hO 0).trans rfl
  have p1 := (blk_cell hO 1).trans rfl
  have p2 := (blk_cell hO 2).trans rfl
  have p3 := (blk_cell hO 3).trans rfl
  have p4 := (blk_cell hO 4).trans rfl
  have p5 := (blk_cell hO 5).trans rfl
  have p6 := (blk_cell hO 6).trans rfl
  have p7 := (blk_cell h1.1 0).trans rfl
  refine wp_region_held_drew (S := fun w' => w'.cell? ⟨o, 0, none⟩ = some (.int .i64 mk) ∧ w'.cell? ⟨o, 1, none⟩ = some (.int .i64 mc) ∧ w'.cell? ⟨o, 2, none⟩ = some (.int .i64 mb) ∧ w'.cell? ⟨o, 3, none⟩ = some (.int .i64 me) ∧ w'.cell? ⟨o, 4, none⟩ = some (.int .i64 mv) ∧ w'.cell? ⟨o, 5, none⟩ = some (.int .i64 mu) ∧ w'.cell? ⟨o, 6, none⟩ = some (.slice A mbs.length c) ∧ w'.cell? ⟨g, 0, none⟩ = some (.int .i64 n)) (by kernel_rfl) ⟨p0, p1, p2, p3, p4, p5, p6, p7⟩ (fun hHeld => ?_)
  refine wpAnyH_take (i := 0) (oi := { dst := some 7, op := Op.load 31 (Operand.tmp 3), type := 31, pos := "cell.go:31", after := #[], guard := none }) (v := (.agg #[.int .i64 mk, .int .i64 mc, .int .i64 mb, .int .i64 me, .int .i64 mv, .int .i64 mu, .slice A mbs.length c])) rfl (by kernel_rfl) (by kernel_rfl) (by kernel_rfl) (fun _ _ _ h => h) (Or.inl ⟨by rfl, fun w hSw => by obtain ⟨s0, s1, s2, s3, s4, s5, s6, s7⟩ := hSw; go_simp⟩) (by assumption) ?_
  simp only [Act.put, List.setIfInBounds_toArray, List.set_cons_zero, List.set_cons_succ]
  refine wpAnyH_ready (rs := [1]) (by kernel_rfl) (by simp) ?_
  refine AllReadyH.cons (o := { dst := some 8, op := Op.call { callee := Callee.value (Operand.func 21), args := #[Operand.tmp 7], argTypes := #[31] }, type := 4, pos := "cell.go:31", after := #[{ on := 0, ground := Ground.data }], guard := none }) rfl (fun K hK => ?_) AllReadyH.nil
  go_simp
  go_at_call 21; refine (msg_Right.calls (mbs.length + 12) mk mc mb me mv mu A c mbs true wa.drew (Kd.C_drew hC1) hc (by rw [Rt.msg_right_eq mbs (by omega), hr])).mono ?_; rintro ee w2 ⟨rfl, hb2⟩; have hb3 : Below wa.heap.size wa w2 := Below.trans (below_drew (Below.refl _ _)) hb2; have hO2 := (hb3.block o (blk_lt hO)).trans hO; have hG2 := (hb3.block g (blk_lt h1.1)).trans h1.1; have hC2 := Kd.C_below hC1 hb3; have q0 := (blk_cell hO2 0).trans rfl; have q1 := (blk_cell hO2 1).trans rfl; have q2 := (blk_cell hO2 2).trans rfl; have q3 := (blk_cell hO2 3).trans rfl; have q4 := (blk_cell hO2 4).trans rfl; have q5 := (blk_cell hO2 5).trans rfl; have q6 := (blk_cell hO2 6).trans rfl; have q7 := (blk_cell hG2 0).trans rfl
  go_wp2_with fail
  refine hK.out _ _ ⟨q0, q1, q2, q3, q4, q5, q6, q7⟩ (fun hHeld => ?_)
  clear hK K
  try simp only [Act.put, List.setIfInBounds_toArray, List.set_cons_zero, List.set_cons_succ]
  refine wpAnyH_take (i := 2) (oi := { dst := some 9, op := Op.unOp UnOp.not 4 (Operand.tmp 8), type := 4, pos := "cell.go:31", after := #[{ on := 1, ground := Ground.data }], guard := none }) (v := (.bool false)) rfl (by kernel_rfl) (by kernel_rfl) (by kernel_rfl) (fun _ _ _ h => h) (Or.inl ⟨by rfl, fun w hSw => by obtain ⟨s0, s1, s2, s3, s4, s5, s6, s7⟩ := hSw; go_simp⟩) (by assumption) ?_
  simp only [Act.put, List.setIfInBounds_toArray, List.set_cons_zero, List.set_cons_succ]
  refine wpAnyH_take (i := 3) (oi := { dst := some 10, op := Op.move (Operand.tmp 9), type := 4, pos := "cell.go:31", after := #[{ on := 2, ground := Ground.data }, { on := 1, ground := Ground.chain }], guard := none }) (v := (.bool false)) rfl (by kernel_rfl) (by kernel_rfl) (by kernel_rfl) (fun _ _ _ h => h) (Or.inl ⟨by rfl, fun w hSw => by obtain ⟨s0, s1, s2, s3, s4, s5, s6, s7⟩ := hSw; go_simp⟩) (by assumption) ?_
  simp only [Act.put, List.setIfInBounds_toArray, List.set_cons_zero, List.set_cons_succ]
  refine wpAnyH_take (i := 4) (oi := { dst := some 11, op := Op.fieldAddr 31 (Operand.tmp 3) 0, type := 0, pos := "cell.go:31", after := #[{ on := 3, ground := Ground.guard }], guard := some (3, false) }) (v := (.pointer (some ⟨o, 0, none⟩))) rfl (by kernel_rfl) (by kernel_rfl) (by kernel_rfl) (fun _ _ _ h => h) (Or.inl ⟨by rfl, fun w hSw => by obtain ⟨s0, s1, s2, s3, s4, s5, s6, s7⟩ := hSw; go_simp⟩) (by assumption) ?_
  simp only [Act.put, List.setIfInBounds_toArray, List.set_cons_zero, List.set_cons_succ]
  refine wpAnyH_take (i := 5) (oi := { dst := some 12, op := Op.load 3 (Operand.tmp 11), type := 3, pos := "cell.go:31", after := #[{ on := 4, ground := Ground.data }, { on := 3, ground := Ground.guard }], guard := some (3, false) }) (v := (.int .i64 mk)) rfl (by kernel_rfl) (by kernel_rfl) (by kernel_rfl) (fun _ _ _ h => h) (Or.inl ⟨by rfl, fun w hSw => by obtain ⟨s0, s1, s2, s3, s4, s5, s6, s7⟩ := hSw; go_simp⟩) (by assumption) ?_
  simp only [Act.put, List.setIfInBounds_toArray, List.set_cons_zero, List.set_cons_succ]
  refine wpAnyH_take (i := 6) (oi := { dst := some 13, op := Op.binOp BinOp.neq 3 (Operand.tmp 12) (Operand.const (Value.int IntKind.i64 1)) 3, type := 4, pos := "cell.go:31", after := #[{ on := 5, ground := Ground.data }, { on := 3, ground := Ground.guard }], guard := some (3, false) }) (v := (.bool false)) rfl (by kernel_rfl) (by kernel_rfl) (by kernel_rfl) (fun _ _ _ h => h) (Or.inl ⟨by rfl, fun w hSw => by obtain ⟨s0, s1, s2, s3, s4, s5, s6, s7⟩ := hSw; go_simp⟩) (by assumption) ?_
  simp only [Act.put, List.setIfInBounds_toArray, List.set_cons_zero, List.set_cons_succ]
  refine wpAnyH_take (i := 7) (oi := { dst := some 14, op := Op.pick (Operand.tmp 10) (Operand.const (Value.bool true)) (Operand.tmp 13), type := 4, pos := "cell.go:31", after := #[{ on := 3, ground := Ground.data }, { on := 6, ground := Ground.data }], guard := none }) (v := (.bool false)) rfl (by kernel_rfl) (by kernel_rfl) (by kernel_rfl) (fun _ _ _ h => h) (Or.inl ⟨by rfl, fun w hSw => by obtain ⟨s0, s1, s2, s3, s4, s5, s6, s7⟩ := hSw; go_simp⟩) (by assumption) ?_
  simp only [Act.put, List.setIfInBounds_toArray, List.set_cons_zero, List.set_cons_succ]
  refine wpAnyH_take (i := 8) (oi := { dst := some 15, op := Op.move (Operand.tmp 14), type := 4, pos := "cell.go:31", after := #[{ on := 7, ground := Ground.data }, { on := 3, ground := Ground.chain }], guard := none }) (v := (.bool false)) rfl (by kernel_rfl) (by kernel_rfl) (by kernel_rfl) (fun _ _ _ h => h) (Or.inl ⟨by rfl, fun w hSw => by obtain ⟨s0, s1, s2, s3, s4, s5, s6, s7⟩ := hSw; go_simp⟩) (by assumption) ?_
  simp only [Act.put, List.setIfInBounds_toArray, List.set_cons_zero, List.set_cons_succ]
  refine wpAnyH_take (i := 9) (oi := { dst := some 16, op := Op.fieldAddr 31 (Operand.tmp 3) 1, type := 0, pos := "cell.go:31", after := #[{ on := 8, ground := Ground.guard }], guard := some (8, false) }) (v := (.pointer (some ⟨o, 1, none⟩))) rfl (by kernel_rfl) (by kernel_rfl) (by kernel_rfl) (fun _ _ _ h => h) (Or.inl ⟨by rfl, fun w hSw => by obtain ⟨s0, s1, s2, s3, s4, s5, s6, s7⟩ := hSw; go_simp⟩) (by assumption) ?_
  simp only [Act.put, List.setIfInBounds_toArray, List.set_cons_zero, List.set_cons_succ]
  refine wpAnyH_take (i := 10) (oi := { dst := some 17, op := Op.load 3 (Operand.tmp 16), type := 3, pos := "cell.go:31", after := #[{ on := 9, ground := Ground.data }, { on := 8, ground := Ground.guard }], guard := some (8, false) }) (v := (.int .i64 mc)) rfl (by kernel_rfl) (by kernel_rfl) (by kernel_rfl) (fun _ _ _ h => h) (Or.inl ⟨by rfl, fun w hSw => by obtain ⟨s0, s1, s2, s3, s4, s5, s6, s7⟩ := hSw; go_simp⟩) (by assumption) ?_
  simp only [Act.put, List.setIfInBounds_toArray, List.set_cons_zero, List.set_cons_succ]
  refine wpAnyH_take (i := 11) (oi := { dst := some 18, op := Op.move (Operand.tmp 0), type := 25, pos := "cell.go:31", after := #[{ on := 8, ground := Ground.guard }], guard := some (8, false) }) (v := (.pointer (some ⟨g, 0, none⟩))) rfl (by kernel_rfl) (by kernel_rfl) (by kernel_rfl) (fun _ _ _ h => h) (Or.inl ⟨by rfl, fun w hSw => by obtain ⟨s0, s1, s2, s3, s4, s5, s6, s7⟩ := hSw; go_simp⟩) (by assumption) ?_
  simp only [Act.put, List.setIfInBounds_toArray, List.set_cons_zero, List.set_cons_succ]
  refine wpAnyH_take (i := 12) (oi := { dst := some 19, op := Op.nilCheck (Operand.tmp 18), type := 0, pos := "cell.go:31", after := #[{ on := 11, ground := Ground.data }, { on := 8, ground := Ground.guard }], guard := some (8, false) }) (v := (.pointer (some ⟨g, 0, none⟩))) rfl (by kernel_rfl) (by kernel_rfl) (by kernel_rfl) (fun _ _ _ h => h) (Or.inl ⟨by rfl, fun w hSw => by obtain ⟨s0, s1, s2, s3, s4, s5, s6, s7⟩ := hSw; go_simp⟩) (by assumption) ?_
  simp only [Act.put, List.setIfInBounds_toArray, List.set_cons_zero, List.set_cons_succ]
  refine wpAnyH_take (i := 13) (oi := { dst := some 20, op := Op.fieldAddr 51 (Operand.tmp 19) 0, type := 0, pos := "cell.go:31", after := #[{ on := 12, ground := Ground.data }, { on := 8, ground := Ground.guard }], guard := some (8, false) }) (v := (.pointer (some ⟨g, 0, none⟩))) rfl (by kernel_rfl) (by kernel_rfl) (by kernel_rfl) (fun _ _ _ h => h) (Or.inl ⟨by rfl, fun w hSw => by obtain ⟨s0, s1, s2, s3, s4, s5, s6, s7⟩ := hSw; go_simp⟩) (by assumption) ?_
  simp only [Act.put, List.setIfInBounds_toArray, List.set_cons_zero, List.set_cons_succ]
  refine wpAnyH_take (i := 14) (oi := { dst := some 21, op := Op.load 3 (Operand.tmp 20), type := 3, pos := "cell.go:31", after := #[{ on := 13, ground := Ground.data }, { on := 8, ground := Ground.guard }], guard := some (8, false) }) (v := (.int .i64 n)) rfl (by kernel_rfl) (by kernel_rfl) (by kernel_rfl) (fun _ _ _ h => h) (Or.inl ⟨by rfl, fun w hSw => by obtain ⟨s0, s1, s2, s3, s4, s5, s6, s7⟩ := hSw; go_simp⟩) (by assumption) ?_
  simp only [Act.put, List.setIfInBounds_toArray, List.set_cons_zero, List.set_cons_succ]
  refine wpAnyH_take (i := 15) (oi := { dst := some 22, op := Op.binOp BinOp.neq 3 (Operand.tmp 17) (Operand.tmp 21) 3, type := 4, pos := "cell.go:31", after := #[{ on := 10, ground := Ground.data }, { on := 14, ground := Ground.data }, { on := 8, ground := Ground.guard }], guard := some (8, false) }) (v := (.bool false)) rfl (by kernel_rfl) (by kernel_rfl) (by kernel_rfl) (fun _ _ _ h => h) (Or.inl ⟨by rfl, fun w hSw => by obtain ⟨s0, s1, s2, s3, s4, s5, s6, s7⟩ := hSw; go_simp⟩) (by assumption) ?_
  simp only [Act.put, List.setIfInBounds_toArray, List.set_cons_zero, List.set_cons_succ]
  refine wpAnyH_take (i := 16) (oi := { dst := some 23, op := Op.pick (Operand.tmp 15) (Operand.const (Value.bool true)) (Operand.tmp 22), type := 4, pos := "cell.go:31", after := #[{ on := 8, ground := Ground.data }, { on := 15, ground := Ground.data }], guard := none }) (v := (.bool false)) rfl (by kernel_rfl) (by kernel_rfl) (by kernel_rfl) (fun _ _ _ h => h) (Or.inl ⟨by rfl, fun w hSw => by obtain ⟨s0, s1, s2, s3, s4, s5, s6, s7⟩ := hSw; go_simp⟩) (by assumption) ?_
  simp only [Act.put, List.setIfInBounds_toArray, List.set_cons_zero, List.set_cons_succ]
  refine wpAnyH_done (by kernel_rfl) ?_ _
  have hbA := below_alloc (Below.refl w2.heap.size w2) (.cells #[.int .i64 me, .int .i64 mv] 49)
  have hP := heap_alloc_new w2 (.cells #[.int .i64 me, .int .i64 mv] 49)
  have hO3 := (hbA.block o (blk_lt hO2)).trans hO2
  have hG3 := (hbA.block g (blk_lt hG2)).trans hG2
  have hC3 := Kd.C_below hC2 hbA
  have hb4 := hb3.trans (hbA.mono hb3.size)
  have x4 := (blk_cell hO3 4).trans rfl
  go_upto_region 5 with fail
  clear x4
  revert hP hO3 hG3 hC3 hb4
  generalize hw2 : w2.heap.size = p at *
  generalize w2.alloc (.cells #[.int .i64 me, .int .i64 mv] 49) = w3 at *
  intro hP hO3 hG3 hC3 hb4
  clear hbA q0 q1 q2 q3 q4 q5 q6 q7 p0 p1 p2 p3 p4 p5 p6 p7
  have x0 := (blk_cell hO3 0).trans rfl
  have x1 := (blk_cell hO3 1).trans rfl
  have x2 := (blk_cell hO3 2).trans rfl
  have x3 := (blk_cell hO3 3).trans rfl
  have x4 := (blk_cell hO3 4).trans rfl
  have x5 := (blk_cell hO3 5).trans rfl
  have x6 := (blk_cell hO3 6).trans rfl
  have y0 := (blk_cell hG3 0).trans rfl
  have y1 := (blk_cell hG3 1).trans rfl
  have y2 := (blk_cell hG3 2).trans rfl
  have y3 := (blk_cell hG3 3).trans rfl
  have y4 := (blk_cell hG3 4).trans rfl
  have y5 := (blk_cell hG3 5).trans rfl
  have fg2 := blk_frozen hG3 2
  have fg3 := blk_frozen hG3 3
  have z0 := (blk_cell hP 0).trans rfl
  have z1 := (blk_cell hP 1).trans rfl
  refine wp_region_held_drew (S := fun w' => w'.cell? ⟨o, 3, none⟩ = some (.int .i64 me) ∧ w'.cell? ⟨g, 2, none⟩ = some (.int .i64 e)) (by kernel_rfl) ⟨x3, y2⟩ (fun hHeld => ?_)
  refine wpAnyH_take (i := 0) (oi := { dst := some 33, op := Op.move (Operand.tmp 6), type := 4, pos := "cell.go:37", after := #[], guard := none }) (v := (.bool false)) rfl (by kernel_rfl) (by kernel_rfl) (by kernel_rfl) (fun _ _ _ h => h) (Or.inl ⟨by rfl, fun w hSw => by obtain ⟨s0, s1⟩ := hSw; go_simp⟩) (by assumption) ?_
  simp only [Act.put, List.setIfInBounds_toArray, List.set_cons_zero, List.set_cons_succ]
  refine wpAnyH_take (i := 1) (oi := { dst := some 34, op := Op.move (Operand.tmp 33), type := 4, pos := "cell.go:37", after := #[{ on := 0, ground := Ground.data }], guard := none }) (v := (.bool false)) rfl (by kernel_rfl) (by kernel_rfl) (by kernel_rfl) (fun _ _ _ h => h) (Or.inl ⟨by rfl, fun w hSw => by obtain ⟨s0, s1⟩ := hSw; go_simp⟩) (by assumption) ?_
  simp only [Act.put, List.setIfInBounds_toArray, List.set_cons_zero, List.set_cons_succ]
  refine wpAnyH_take (i := 2) (oi := { dst := some 35, op := Op.fieldAddr 31 (Operand.tmp 3) 3, type := 0, pos := "cell.go:37", after := #[{ on := 1, ground := Ground.guard }], guard := some (1, true) }) (v := undef) rfl (by kernel_rfl) (by kernel_rfl) (by kernel_rfl) (fun _ _ _ h => h) (Or.inr ⟨by rfl, rfl⟩) (by assumption) ?_
  simp only [Act.put, List.setIfInBounds_toArray, List.set_cons_zero, List.set_cons_succ]
  refine wpAnyH_take (i := 3) (oi := { dst := some 36, op := Op.load 3 (Operand.tmp 35), type := 3, pos := "cell.go:37", after := #[{ on := 2, ground := Ground.data }, { on := 1, ground := Ground.guard }], guard := some (1, true) }) (v := undef) rfl (by kernel_rfl) (by kernel_rfl) (by kernel_rfl) (fun _ _ _ h => h) (Or.inr ⟨by rfl, rfl⟩) (by assumption) ?_
  simp only [Act.put, List.setIfInBounds_toArray, List.set_cons_zero, List.set_cons_succ]
  refine wpAnyH_take (i := 4) (oi := { dst := some 37, op := Op.move (Operand.tmp 0), type := 25, pos := "cell.go:37", after := #[{ on := 1, ground := Ground.guard }], guard := some (1, true) }) (v := undef) rfl (by kernel_rfl) (by kernel_rfl) (by kernel_rfl) (fun _ _ _ h => h) (Or.inr ⟨by rfl, rfl⟩) (by assumption) ?_
  simp only [Act.put, List.setIfInBounds_toArray, List.set_cons_zero, List.set_cons_succ]
  refine wpAnyH_take (i := 5) (oi := { dst := some 38, op := Op.nilCheck (Operand.tmp 37), type := 0, pos := "cell.go:37", after := #[{ on := 4, ground := Ground.data }, { on := 1, ground := Ground.guard }], guard := some (1, true) }) (v := undef) rfl (by kernel_rfl) (by kernel_rfl) (by kernel_rfl) (fun _ _ _ h => h) (Or.inr ⟨by rfl, rfl⟩) (by assumption) ?_
  simp only [Act.put, List.setIfInBounds_toArray, List.set_cons_zero, List.set_cons_succ]
  refine wpAnyH_take (i := 6) (oi := { dst := some 39, op := Op.fieldAddr 51 (Operand.tmp 38) 2, type := 0, pos := "cell.go:37", after := #[{ on := 5, ground := Ground.data }, { on := 1, ground := Ground.guard }], guard := some (1, true) }) (v := undef) rfl (by kernel_rfl) (by kernel_rfl) (by kernel_rfl) (fun _ _ _ h => h) (Or.inr ⟨by rfl, rfl⟩) (by assumption) ?_
  simp only [Act.put, List.setIfInBounds_toArray, List.set_cons_zero, List.set_cons_succ]
  refine wpAnyH_take (i := 7) (oi := { dst := some 40, op := Op.indexAddr 49 (Operand.tmp 39) (Operand.const (Value.int IntKind.i64 0)), type := 0, pos := "cell.go:37", after := #[{ on := 6, ground := Ground.data }, { on := 1, ground := Ground.guard }], guard := some (1, true) }) (v := undef) rfl (by kernel_rfl) (by kernel_rfl) (by kernel_rfl) (fun _ _ _ h => h) (Or.inr ⟨by rfl, rfl⟩) (by assumption) ?_
  simp only [Act.put, List.setIfInBounds_toArray, List.set_cons_zero, List.set_cons_succ]
  refine wpAnyH_take (i := 8) (oi := { dst := some 41, op := Op.load 3 (Operand.tmp 40), type := 3, pos := "cell.go:37", after := #[{ on := 7, ground := Ground.data }, { on := 1, ground := Ground.guard }], guard := some (1, true) }) (v := undef) rfl (by kernel_rfl) (by kernel_rfl) (by kernel_rfl) (fun _ _ _ h => h) (Or.inr ⟨by rfl, rfl⟩) (by assumption) ?_
  simp only [Act.put, List.setIfInBounds_toArray, List.set_cons_zero, List.set_cons_succ]
  refine wpAnyH_take (i := 9) (oi := { dst := some 42, op := Op.binOp BinOp.leq 3 (Operand.tmp 36) (Operand.tmp 41) 3, type := 4, pos := "cell.go:37", after := #[{ on := 3, ground := Ground.data }, { on := 8, ground := Ground.data }, { on := 1, ground := Ground.guard }], guard := some (1, true) }) (v := undef) rfl (by kernel_rfl) (by kernel_rfl) (by kernel_rfl) (fun _ _ _ h => h) (Or.inr ⟨by rfl, rfl⟩) (by assumption) ?_
  simp only [Act.put, List.setIfInBounds_toArray, List.set_cons_zero, List.set_cons_succ]
  refine wpAnyH_take (i := 10) (oi := { dst := some 43, op := Op.pick (Operand.tmp 34) (Operand.tmp 42) (Operand.const (Value.bool false)), type := 4, pos := "cell.go:37", after := #[{ on := 1, ground := Ground.data }, { on := 9, ground := Ground.data }], guard := none }) (v := (.bool false)) rfl (by kernel_rfl) (by kernel_rfl) (by kernel_rfl) (fun _ _ _ h => h) (Or.inl ⟨by rfl, fun w hSw => by obtain ⟨s0, s1⟩ := hSw; go_simp⟩) (by assumption) ?_
  simp only [Act.put, List.setIfInBounds_toArray, List.set_cons_zero, List.set_cons_succ]
  refine wpAnyH_take (i := 11) (oi := { dst := some 32, op := Op.assign (Operand.tmp 43), type := 4, pos := "cell.go:37", after := #[{ on := 10, ground := Ground.data }, { on := 1, ground := Ground.chain }], guard := none }) (v := (.bool false)) rfl (by kernel_rfl) (by kernel_rfl) (by kernel_rfl) (fun _ _ _ h => h) (Or.inl ⟨by rfl, fun w hSw => by obtain ⟨s0, s1⟩ := hSw; go_simp⟩) (by assumption) ?_
  simp only [Act.put, List.setIfInBounds_toArray, List.set_cons_zero, List.set_cons_succ]
  refine wpAnyH_done (by kernel_rfl) ?_ _
  go_upto_region 6 with fail
  refine wp_region_held_drew (S := fun w' => w'.cell? ⟨o, 2, none⟩ = some (.int .i64 mb) ∧ w'.cell? ⟨g, 1, none⟩ = some (.int .i64 b) ∧ w'.cell? ⟨g, 2, none⟩ = some (.int .i64 e) ∧ w'.cell? ⟨g, 3, none⟩ = some (.int .i64 v) ∧ w'.cell? ⟨p, 0, none⟩ = some (.int .i64 me) ∧ w'.cell? ⟨p, 1, none⟩ = some (.int .i64 mv)) (by kernel_rfl) ⟨x2, y1, y2, y3, z0, z1⟩ (fun hHeld => ?_)
  refine wpAnyH_take (i := 0) (oi := { dst := some 44, op := Op.move (Operand.tmp 6), type := 4, pos := "cell.go:37", after := #[], guard := none }) (v := (.bool false)) rfl (by kernel_rfl) (by kernel_rfl) (by kernel_rfl) (fun _ _ _ h => h) (Or.inl ⟨by rfl, fun w hSw => by obtain ⟨s0, s1, s2, s3, s4, s5⟩ := hSw; go_simp⟩) (by assumption) ?_
  simp only [Act.put, List.setIfInBounds_toArray, List.set_cons_zero, List.set_cons_succ]
  refine wpAnyH_take (i := 1) (oi := { dst := some 45, op := Op.unOp UnOp.not 4 (Operand.tmp 44), type := 4, pos := "cell.go:37", after := #[{ on := 0, ground := Ground.data }], guard := none }) (v := (.bool true)) rfl (by kernel_rfl) (by kernel_rfl) (by kernel_rfl) (fun _ _ _ h => h) (Or.inl ⟨by rfl, fun w hSw => by obtain ⟨s0, s1, s2, s3, s4, s5⟩ := hSw; go_simp⟩) (by assumption) ?_
  simp only [Act.put, List.setIfInBounds_toArray, List.set_cons_zero, List.set_cons_succ]
  refine wpAnyH_take (i := 2) (oi := { dst := some 46, op := Op.move (Operand.tmp 45), type := 4, pos := "cell.go:37", after := #[{ on := 1, ground := Ground.data }], guard := none }) (v := (.bool true)) rfl (by kernel_rfl) (by kernel_rfl) (by kernel_rfl) (fun _ _ _ h => h) (Or.inl ⟨by rfl, fun w hSw => by obtain ⟨s0, s1, s2, s3, s4, s5⟩ := hSw; go_simp⟩) (by assumption) ?_
  simp only [Act.put, List.setIfInBounds_toArray, List.set_cons_zero, List.set_cons_succ]
  refine wpAnyH_take (i := 3) (oi := { dst := some 47, op := Op.fieldAddr 31 (Operand.tmp 3) 2, type := 0, pos := "cell.go:37", after := #[{ on := 2, ground := Ground.guard }], guard := some (2, true) }) (v := (.pointer (some ⟨o, 2, none⟩))) rfl (by kernel_rfl) (by kernel_rfl) (by kernel_rfl) (fun _ _ _ h => h) (Or.inl ⟨by rfl, fun w hSw => by obtain ⟨s0, s1, s2, s3, s4, s5⟩ := hSw; go_simp⟩) (by assumption) ?_
  simp only [Act.put, List.setIfInBounds_toArray, List.set_cons_zero, List.set_cons_succ]
  refine wpAnyH_take (i := 4) (oi := { dst := some 48, op := Op.load 3 (Operand.tmp 47), type := 3, pos := "cell.go:37", after := #[{ on := 3, ground := Ground.data }, { on := 2, ground := Ground.guard }], guard := some (2, true) }) (v := (.int .i64 mb)) rfl (by kernel_rfl) (by kernel_rfl) (by kernel_rfl) (fun _ _ _ h => h) (Or.inl ⟨by rfl, fun w hSw => by obtain ⟨s0, s1, s2, s3, s4, s5⟩ := hSw; go_simp⟩) (by assumption) ?_
  simp only [Act.put, List.setIfInBounds_toArray, List.set_cons_zero, List.set_cons_succ]
  refine wpAnyH_take (i := 5) (oi := { dst := some 49, op := Op.move (Operand.tmp 0), type := 25, pos := "cell.go:37", after := #[{ on := 2, ground := Ground.guard }], guard := some (2, true) }) (v := (.pointer (some ⟨g, 0, none⟩))) rfl (by kernel_rfl) (by kernel_rfl) (by kernel_rfl) (fun _ _ _ h => h) (Or.inl ⟨by rfl, fun w hSw => by obtain ⟨s0, s1, s2, s3, s4, s5⟩ := hSw; go_simp⟩) (by assumption) ?_
  simp only [Act.put, List.setIfInBounds_toArray, List.set_cons_zero, List.set_cons_succ]
  refine wpAnyH_take (i := 6) (oi := { dst := some 50, op := Op.nilCheck (Operand.tmp 49), type := 0, pos := "cell.go:37", after := #[{ on := 5, ground := Ground.data }, { on := 2, ground := Ground.guard }], guard := some (2, true) }) (v := (.pointer (some ⟨g, 0, none⟩))) rfl (by kernel_rfl) (by kernel_rfl) (by kernel_rfl) (fun _ _ _ h => h) (Or.inl ⟨by rfl, fun w hSw => by obtain ⟨s0, s1, s2, s3, s4, s5⟩ := hSw; go_simp⟩) (by assumption) ?_
  simp only [Act.put, List.setIfInBounds_toArray, List.set_cons_zero, List.set_cons_succ]
  refine wpAnyH_take (i := 7) (oi := { dst := some 51, op := Op.fieldAddr 51 (Operand.tmp 50) 1, type := 0, pos := "cell.go:37", after := #[{ on := 6, ground := Ground.data }, { on := 2, ground := Ground.guard }], guard := some (2, true) }) (v := (.pointer (some ⟨g, 1, none⟩))) rfl (by kernel_rfl) (by kernel_rfl) (by kernel_rfl) (fun _ _ _ h => h) (Or.inl ⟨by rfl, fun w hSw => by obtain ⟨s0, s1, s2, s3, s4, s5⟩ := hSw; go_simp⟩) (by assumption) ?_
  simp only [Act.put, List.setIfInBounds_toArray, List.set_cons_zero, List.set_cons_succ]
  refine wpAnyH_take (i := 8) (oi := { dst := some 52, op := Op.load 3 (Operand.tmp 51), type := 3, pos := "cell.go:37", after := #[{ on := 7, ground := Ground.data }, { on := 2, ground := Ground.guard }], guard := some (2, true) }) (v := (.int .i64 b)) rfl (by kernel_rfl) (by kernel_rfl) (by kernel_rfl) (fun _ _ _ h => h) (Or.inl ⟨by rfl, fun w hSw => by obtain ⟨s0, s1, s2, s3, s4, s5⟩ := hSw; go_simp⟩) (by assumption) ?_
  simp only [Act.put, List.setIfInBounds_toArray, List.set_cons_zero, List.set_cons_succ]
  refine wpAnyH_take (i := 9) (oi := { dst := some 53, op := Op.binOp BinOp.neq 3 (Operand.tmp 48) (Operand.tmp 52) 3, type := 4, pos := "cell.go:37", after := #[{ on := 4, ground := Ground.data }, { on := 8, ground := Ground.data }, { on := 2, ground := Ground.guard }], guard := some (2, true) }) (v := (.bool false)) rfl (by kernel_rfl) (by kernel_rfl) (by kernel_rfl) (fun _ _ _ h => h) (Or.inl ⟨by rfl, fun w hSw => by obtain ⟨s0, s1, s2, s3, s4, s5⟩ := hSw; go_simp⟩) (by assumption) ?_
  simp only [Act.put, List.setIfInBounds_toArray, List.set_cons_zero, List.set_cons_succ]
  refine wpAnyH_take (i := 10) (oi := { dst := some 54, op := Op.move (Operand.tmp 53), type := 4, pos := "cell.go:37", after := #[{ on := 9, ground := Ground.data }, { on := 2, ground := Ground.chain }, { on := 2, ground := Ground.guard }], guard := some (2, true) }) (v := (.bool false)) rfl (by kernel_rfl) (by kernel_rfl) (by kernel_rfl) (fun _ _ _ h => h) (Or.inl ⟨by rfl, fun w hSw => by obtain ⟨s0, s1, s2, s3, s4, s5⟩ := hSw; go_simp⟩) (by assumption) ?_
  simp only [Act.put, List.setIfInBounds_toArray, List.set_cons_zero, List.set_cons_succ]
  refine wpAnyH_take (i := 11) (oi := { dst := some 55, op := Op.move (Operand.tmp 0), type := 25, pos := "cell.go:37", after := #[{ on := 10, ground := Ground.guard }], guard := some (10, false) }) (v := (.pointer (some ⟨g, 0, none⟩))) rfl (by kernel_rfl) (by kernel_rfl) (by kernel_rfl) (fun _ _ _ h => h) (Or.inl ⟨by rfl, fun w hSw => by obtain ⟨s0, s1, s2, s3, s4, s5⟩ := hSw; go_simp⟩) (by assumption) ?_
  simp only [Act.put, List.setIfInBounds_toArray, List.set_cons_zero, List.set_cons_succ]
  refine wpAnyH_take (i := 12) (oi := { dst := some 56, op := Op.nilCheck (Operand.tmp 55), type := 0, pos := "cell.go:37", after := #[{ on := 11, ground := Ground.data }, { on := 10, ground := Ground.guard }], guard := some (10, false) }) (v := (.pointer (some ⟨g, 0, none⟩))) rfl (by kernel_rfl) (by kernel_rfl) (by kernel_rfl) (fun _ _ _ h => h) (Or.inl ⟨by rfl, fun w hSw => by obtain ⟨s0, s1, s2, s3, s4, s5⟩ := hSw; go_simp⟩) (by assumption) ?_
  simp only [Act.put, List.setIfInBounds_toArray, List.set_cons_zero, List.set_cons_succ]
  refine wpAnyH_take (i := 13) (oi := { dst := some 57, op := Op.fieldAddr 51 (Operand.tmp 56) 2, type := 0, pos := "cell.go:37", after := #[{ on := 12, ground := Ground.data }, { on := 10, ground := Ground.guard }], guard := some (10, false) }) (v := (.pointer (some ⟨g, 2, none⟩))) rfl (by kernel_rfl) (by kernel_rfl) (by kernel_rfl) (fun _ _ _ h => h) (Or.inl ⟨by rfl, fun w hSw => by obtain ⟨s0, s1, s2, s3, s4, s5⟩ := hSw; go_simp⟩) (by assumption) ?_
  simp only [Act.put, List.setIfInBounds_toArray, List.set_cons_zero, List.set_cons_succ]
  refine wpAnyH_take (i := 14) (oi := { dst := some 58, op := Op.load 49 (Operand.tmp 57), type := 49, pos := "cell.go:37", after := #[{ on := 13, ground := Ground.data }, { on := 10, ground := Ground.guard }], guard := some (10, false) }) (v := (.agg #[.int .i64 e, .int .i64 v])) rfl (by kernel_rfl) (by kernel_rfl) (by kernel_rfl) (fun _ _ _ h => h) (Or.inl ⟨by rfl, fun w hSw => by obtain ⟨s0, s1, s2, s3, s4, s5⟩ := hSw; go_simp⟩) (by assumption) ?_
  simp only [Act.put, List.setIfInBounds_toArray, List.set_cons_zero, List.set_cons_succ]
  refine wpAnyH_take (i := 15) (oi := { dst := some 59, op := Op.load 49 (Operand.tmp 5), type := 49, pos := "cell.go:37", after := #[{ on := 10, ground := Ground.guard }], guard := some (10, false) }) (v := (.agg #[.int .i64 me, .int .i64 mv])) rfl (by kernel_rfl) (by kernel_rfl) (by kernel_rfl) (fun _ _ _ h => h) (Or.inl ⟨by rfl, fun w hSw => by obtain ⟨s0, s1, s2, s3, s4, s5⟩ := hSw; go_simp⟩) (by assumption) ?_
  simp only [Act.put, List.setIfInBounds_toArray, List.set_cons_zero, List.set_cons_succ]
  refine wpAnyH_ready (rs := [16]) (by kernel_rfl) (by simp) ?_
  refine AllReadyH.cons (o := { dst := some 60, op := Op.call { callee := Callee.value (Operand.func 22), args := #[Operand.tmp 58, Operand.tmp 59], argTypes := #[49, 49] }, type := 4, pos := "cell.go:37", after := #[{ on := 14, ground := Ground.data }, { on := 15, ground := Ground.data }, { on := 10, ground := Ground.chain }, { on := 10, ground := Ground.guard }], guard := some (10, false) }) rfl (fun K hK => ?_) AllReadyH.nil
  go_simp
  go_at_call 22; refine (ahead_any e v me mv _).mono ?_; rintro ee w5 ⟨rfl, hb5⟩; rw [hah]; have hb6 : Below w3.heap.size w3 w5 := Below.trans (below_drew (below_drew (Below.refl _ _))) hb5; have hO5 := (hb6.block o (blk_lt hO3)).trans hO3; have hG5 := (hb6.block g (blk_lt hG3)).trans hG3; have hP5 := (hb6.block p (blk_lt hP)).trans hP; have x2b := (blk_cell hO5 2).trans rfl; have y1b := (blk_cell hG5 1).trans rfl; have y2b := (blk_cell hG5 2).trans rfl; have y3b := (blk_cell hG5 3).trans rfl; have z0b := (blk_cell hP5 0).trans rfl; have z1b := (blk_cell hP5 1).trans rfl
  go_wp2_with fail
  refine hK.out _ _ ⟨x2b, y1b, y2b, y3b, z0b, z1b⟩ (fun hHeld => ?_)
  clear hK K
  try simp only [Act.put, List.setIfInBounds_toArray, List.set_cons_zero, List.set_cons_succ]
  refine wpAnyH_take (i := 17) (oi := { dst := some 61, op := Op.unOp UnOp.not 4 (Operand.tmp 60), type := 4, pos := "cell.go:37", after := #[{ on := 16, ground := Ground.data }, { on := 10, ground := Ground.guard }], guard := some (10, false) }) (v := (.bool true)) rfl (by kernel_rfl) (by kernel_rfl) (by kernel_rfl) (fun _ _ _ h => h) (Or.inl ⟨by rfl, fun w hSw => by obtain ⟨s0, s1, s2, s3, s4, s5⟩ := hSw; go_simp⟩) (by assumption) ?_
  simp only [Act.put, List.setIfInBounds_toArray, List.set_cons_zero, List.set_cons_succ]
  refine wpAnyH_take (i := 18) (oi := { dst := some 62, op := Op.pick (Operand.tmp 54) (Operand.const (Value.bool true)) (Operand.tmp 61), type := 4, pos := "cell.go:37", after := #[{ on := 10, ground := Ground.data }, { on := 17, ground := Ground.data }, { on := 2, ground := Ground.guard }], guard := some (2, true) }) (v := (.bool true)) rfl (by kernel_rfl) (by kernel_rfl) (by kernel_rfl) (fun _ _ _ h => h) (Or.inl ⟨by rfl, fun w hSw => by obtain ⟨s0, s1, s2, s3, s4, s5⟩ := hSw; go_simp⟩) (by assumption) ?_
  simp only [Act.put, List.setIfInBounds_toArray, List.set_cons_zero, List.set_cons_succ]
  refine wpAnyH_take (i := 19) (oi := { dst := some 63, op := Op.pick (Operand.tmp 46) (Operand.tmp 62) (Operand.const (Value.bool false)), type := 4, pos := "cell.go:37", after := #[{ on := 2, ground := Ground.data }, { on := 18, ground := Ground.data }], guard := none }) (v := (.bool true)) rfl (by kernel_rfl) (by kernel_rfl) (by kernel_rfl) (fun _ _ _ h => h) (Or.inl ⟨by rfl, fun w hSw => by obtain ⟨s0, s1, s2, s3, s4, s5⟩ := hSw; go_simp⟩) (by assumption) ?_
  simp only [Act.put, List.setIfInBounds_toArray, List.set_cons_zero, List.set_cons_succ]
  refine wpAnyH_take (i := 20) (oi := { dst := some 32, op := Op.assign (Operand.tmp 63), type := 4, pos := "cell.go:37", after := #[{ on := 19, ground := Ground.data }, { on := 16, ground := Ground.chain }], guard := none }) (v := (.bool true)) rfl (by kernel_rfl) (by kernel_rfl) (by kernel_rfl) (fun _ _ _ h => h) (Or.inl ⟨by rfl, fun w hSw => by obtain ⟨s0, s1, s2, s3, s4, s5⟩ := hSw; go_simp⟩) (by assumption) ?_
  simp only [Act.put, List.setIfInBounds_toArray, List.set_cons_zero, List.set_cons_succ]
  refine wpAnyH_done (by kernel_rfl) ?_ _
  go_wp2_with fail
  go_ret
  subst hw0
  exact ⟨rfl, Does.same h hB ((HBa.trans (hb4.mono HBa.size)).trans (hb6.mono (HBa.trans (hb4.mono HBa.size)).size))⟩
set_option maxHeartbeats 4000000 in
theorem recv_take (h : Ce ok 51 w0 w g n b e v u V bs) (hB : Below w0.heap.size w0 w) (hC : Kd.C k35 w A mbs.length mbs) (hc : mbs.length ≤ c) (hml : mbs.length ≤ 2000000000000) (hr : Rt.rightS mk mc mb me mv mu mbs = true) (hk : mk = 1) (hn : mc = n) (hok : ∀ k, w.heap.size ≤ k → ok k) (hz : mv ≠ 0) (hbo : mb = b) (hah : aheadS e v me mv = true) :
    Calls Tryd.prog 11 #[.pointer (some ⟨g, 0, none⟩), .agg #[.int .i64 mk, .int .i64 mc, .int .i64 mb, .int .i64 me, .int .i64 mv, .int .i64 mu, .slice A mbs.length c]] w fun ee w' => ee = .returned (.bool true) ∧ Does ok 51 w0 w w' g n b me mv mu mbs := by
  have t1 : (mk != 1) = false := by simp [hk]
  have t2 : (mc != n) = false := by simp [hn]
  clear hk hn
  have t5 : (mb != b) = false := by simp [hbo]
  clear hbo
  have t3 : (mv == 0) = false := by simpa using hz
  clear hz
  have HBa := below_alloc (Below.refl w.heap.size w) (.cells #[.int .i64 mk, .int .i64 mc, .int .i64 mb, .int .i64 me, .int .i64 mv, .int .i64 mu, .slice A mbs.length c] 31)
  have hO := heap_alloc_new w (.cells #[.int .i64 mk, .int .i64 mc, .int .i64 mb, .int .i64 me, .int .i64 mv, .int .i64 mu, .slice A mbs.length c] 31)
  have h1 := Ce.below h HBa
  have hC1 := Kd.C_below hC HBa
  have hgo : g ≠ w.heap.size := by have := blk_lt h.1; omega
  have hwo := HBa.size
  go_enter Tryd.func11, Tryd.ntmps11
  go_wp2_with fail
  revert HBa hO h1 hC1
  generalize hw0 : w.heap.size = o at *
  generalize w.alloc (.cells #[.int .i64 mk, .int .i64 mc, .int .i64 mb, .int .i64 me, .int .i64 mv, .int .i64 mu, .slice A mbs.length c] 31) = wa at *
  intro HBa hO h1 hC1
  have p0 := (blk_cell hO 0).trans rfl
  have p1 := (blk_cell hO 1).trans rfl
  have p2 := (blk_cell hO 2).trans rfl
  have p3 := (blk_cell hO 3).trans rfl
  have p4 := (blk_cell hO 4).trans rfl
  have p5 := (blk_cell hO 5).trans rfl
  have p6 := (blk_cell hO 6).trans rfl
  have p7 := (blk_cell h1.1 0).trans rfl
  refine wp_region_held_drew (S := fun w' => w'.cell? ⟨o, 0, none⟩ = some (.int .i64 mk) ∧ w'.cell? ⟨o, 1, none⟩ = some (.int .i64 mc) ∧ w'.cell? ⟨o, 2, none⟩ = some (.int .i64 mb) ∧ w'.cell? ⟨o, 3, none⟩ = some (.int .i64 me) ∧ w'.cell? ⟨o, 4, none⟩ = some (.int .i64 mv) ∧ w'.cell? ⟨o, 5, none⟩ = some (.int .i64 mu) ∧ w'.cell? ⟨o, 6, none⟩ = some (.slice A mbs.length c) ∧ w'.cell? ⟨g, 0, none⟩ = some (.int .i64 n)) (by kernel_rfl) ⟨p0, p1, p2, p3, p4, p5, p6, p7⟩ (fun hHeld => ?_)
  refine wpAnyH_take (i := 0) (oi := { dst := some 7, op := Op.load 31 (Operand.tmp 3), type := 31, pos := "cell.go:31", after := #[], guard := none }) (v := (.agg #[.int .i64 mk, .int .i64 mc, .int .i64 mb, .int .i64 me, .int .i64 mv, .int .i64 mu, .slice A mbs.length c])) rfl (by kernel_rfl) (by kernel_rfl) (by kernel_rfl) (fun _ _ _ h => h) (Or.inl ⟨by rfl, fun w hSw => by obtain ⟨s0, s1, s2, s3, s4, s5, s6, s7⟩ := hSw; go_simp⟩) (by assumption) ?_
  simp only [Act.put, List.setIfInBounds_toArray, List.set_cons_zero, List.set_cons_succ]
  refine wpAnyH_ready (rs := [1]) (by kernel_rfl) (by simp) ?_
  refine AllReadyH.cons (o := { dst := some 8, op := Op.call { callee := Callee.value (Operand.func 21), args := #[Operand.tmp 7], argTypes := #[31] }, type := 4, pos := "cell.go:31", after := #[{ on := 0, ground := Ground.data }], guard := none }) rfl (fun K hK => ?_) AllReadyH.nil
  go_simp
  go_at_call 21; refine (msg_Right.calls (mbs.length + 12) mk mc mb me mv mu A c mbs true wa.drew (Kd.C_drew hC1) hc (by rw [Rt.msg_right_eq mbs (by omega), hr])).mono ?_; rintro ee w2 ⟨rfl, hb2⟩; have hb3 : Below wa.heap.size wa w2 := Below.trans (below_drew (Below.refl _ _)) hb2; have hO2 := (hb3.block o (blk_lt hO)).trans hO; have hG2 := (hb3.block g (blk_lt h1.1)).trans h1.1; have hC2 := Kd.C_below hC1 hb3; have q0 := (blk_cell hO2 0).trans rfl; have q1 := (blk_cell hO2 1).trans rfl; have q2 := (blk_cell hO2 2).trans rfl; have q3 := (blk_cell hO2 3).trans rfl; have q4 := (blk_cell hO2 4).trans rfl; have q5 := (blk_cell hO2 5).trans rfl; have q6 := (blk_cell hO2 6).trans rfl; have q7 := (blk_cell hG2 0).trans rfl
  go_wp2_with fail
  refine hK.out _ _ ⟨q0, q1, q2, q3, q4, q5, q6, q7⟩ (fun hHeld => ?_)
  clear hK K
  try simp only [Act.put, List.setIfInBounds_toArray, List.set_cons_zero, List.set_cons_succ]
  refine wpAnyH_take (i := 2) (oi := { dst := some 9, op := Op.unOp UnOp.not 4 (Operand.tmp 8), type := 4, pos := "cell.go:31", after := #[{ on := 1, ground := Ground.data }], guard := none }) (v := (.bool false)) rfl (by kernel_rfl) (by kernel_rfl) (by kernel_rfl) (fun _ _ _ h => h) (Or.inl ⟨by rfl, fun w hSw => by obtain ⟨s0, s1, s2, s3, s4, s5, s6, s7⟩ := hSw; go_simp⟩) (by assumption) ?_
  simp only [Act.put, List.setIfInBounds_toArray, List.set_cons_zero, List.set_cons_succ]
  refine wpAnyH_take (i := 3) (oi := { dst := some 10, op := Op.move (Operand.tmp 9), type := 4, pos := "cell.go:31", after := #[{ on := 2, ground := Ground.data }, { on := 1, ground := Ground.chain }], guard := none }) (v := (.bool false)) rfl (by kernel_rfl) (by kernel_rfl) (by kernel_rfl) (fun _ _ _ h => h) (Or.inl ⟨by rfl, fun w hSw => by obtain ⟨s0, s1, s2, s3, s4, s5, s6, s7⟩ := hSw; go_simp⟩) (by assumption) ?_
  simp only [Act.put, List.setIfInBounds_toArray, List.set_cons_zero, List.set_cons_succ]
  refine wpAnyH_take (i := 4) (oi := { dst := some 11, op := Op.fieldAddr 31 (Operand.tmp 3) 0, type := 0, pos := "cell.go:31", after := #[{ on := 3, ground := Ground.guard }], guard := some (3, false) }) (v := (.pointer (some ⟨o, 0, none⟩))) rfl (by kernel_rfl) (by kernel_rfl) (by kernel_rfl) (fun _ _ _ h => h) (Or.inl ⟨by rfl, fun w hSw => by obtain ⟨s0, s1, s2, s3, s4, s5, s6, s7⟩ := hSw; go_simp⟩) (by assumption) ?_
  simp only [Act.put, List.setIfInBounds_toArray, List.set_cons_zero, List.set_cons_succ]
  refine wpAnyH_take (i := 5) (oi := { dst := some 12, op := Op.load 3 (Operand.tmp 11), type := 3, pos := "cell.go:31", after := #[{ on := 4, ground := Ground.data }, { on := 3, ground := Ground.guard }], guard := some (3, false) }) (v := (.int .i64 mk)) rfl (by kernel_rfl) (by kernel_rfl) (by kernel_rfl) (fun _ _ _ h => h) (Or.inl ⟨by rfl, fun w hSw => by obtain ⟨s0, s1, s2, s3, s4, s5, s6, s7⟩ := hSw; go_simp⟩) (by assumption) ?_
  simp only [Act.put, List.setIfInBounds_toArray, List.set_cons_zero, List.set_cons_succ]
  refine wpAnyH_take (i := 6) (oi := { dst := some 13, op := Op.binOp BinOp.neq 3 (Operand.tmp 12) (Operand.const (Value.int IntKind.i64 1)) 3, type := 4, pos := "cell.go:31", after := #[{ on := 5, ground := Ground.data }, { on := 3, ground := Ground.guard }], guard := some (3, false) }) (v := (.bool false)) rfl (by kernel_rfl) (by kernel_rfl) (by kernel_rfl) (fun _ _ _ h => h) (Or.inl ⟨by rfl, fun w hSw => by obtain ⟨s0, s1, s2, s3, s4, s5, s6, s7⟩ := hSw; go_simp⟩) (by assumption) ?_
  simp only [Act.put, List.setIfInBounds_toArray, List.set_cons_zero, List.set_cons_succ]
  refine wpAnyH_take (i := 7) (oi := { dst := some 14, op := Op.pick (Operand.tmp 10) (Operand.const (Value.bool true)) (Operand.tmp 13), type := 4, pos := "cell.go:31", after := #[{ on := 3, ground := Ground.data }, { on := 6, ground := Ground.data }], guard := none }) (v := (.bool false)) rfl (by kernel_rfl) (by kernel_rfl) (by kernel_rfl) (fun _ _ _ h => h) (Or.inl ⟨by rfl, fun w hSw => by obtain ⟨s0, s1, s2, s3, s4, s5, s6, s7⟩ := hSw; go_simp⟩) (by assumption) ?_
  simp only [Act.put, List.setIfInBounds_toArray, List.set_cons_zero, List.set_cons_succ]
  refine wpAnyH_take (i := 8) (oi := { dst := some 15, op := Op.move (Operand.tmp 14), type := 4, pos := "cell.go:31", after := #[{ on := 7, ground := Ground.data }, { on := 3, ground := Ground.chain }], guard := none }) (v := (.bool false)) rfl (by kernel_rfl) (by kernel_rfl) (by kernel_rfl) (fun _ _ _ h => h) (Or.inl ⟨by rfl, fun w hSw => by obtain ⟨s0, s1, s2, s3, s4, s5, s6, s7⟩ := hSw; go_simp⟩) (by assumption) ?_
  simp only [Act.put, List.setIfInBounds_toArray, List.set_cons_zero, List.set_cons_succ]
  refine wpAnyH_take (i := 9) (oi := { dst := some 16, op := Op.fieldAddr 31 (Operand.tmp 3) 1, type := 0, pos := "cell.go:31", after := #[{ on := 8, ground := Ground.guard }], guard := some (8, false) }) (v := (.pointer (some ⟨o, 1, none⟩))) rfl (by kernel_rfl) (by kernel_rfl) (by kernel_rfl) (fun _ _ _ h => h) (Or.inl ⟨by rfl, fun w hSw => by obtain ⟨s0, s1, s2, s3, s4, s5, s6, s7⟩ := hSw; go_simp⟩) (by assumption) ?_
  simp only [Act.put, List.setIfInBounds_toArray, List.set_cons_zero, List.set_cons_succ]
  refine wpAnyH_take (i := 10) (oi := { dst := some 17, op := Op.load 3 (Operand.tmp 16), type := 3, pos := "cell.go:31", after := #[{ on := 9, ground := Ground.data }, { on := 8, ground := Ground.guard }], guard := some (8, false) }) (v := (.int .i64 mc)) rfl (by kernel_rfl) (by kernel_rfl) (by kernel_rfl) (fun _ _ _ h => h) (Or.inl ⟨by rfl, fun w hSw => by obtain ⟨s0, s1, s2, s3, s4, s5, s6, s7⟩ := hSw; go_simp⟩) (by assumption) ?_
  simp only [Act.put, List.setIfInBounds_toArray, List.set_cons_zero, List.set_cons_succ]
  refine wpAnyH_take (i := 11) (oi := { dst := some 18, op := Op.move (Operand.tmp 0), type := 25, pos := "cell.go:31", after := #[{ on := 8, ground := Ground.guard }], guard := some (8, false) }) (v := (.pointer (some ⟨g, 0, none⟩))) rfl (by kernel_rfl) (by kernel_rfl) (by kernel_rfl) (fun _ _ _ h => h) (Or.inl ⟨by rfl, fun w hSw => by obtain ⟨s0, s1, s2, s3, s4, s5, s6, s7⟩ := hSw; go_simp⟩) (by assumption) ?_
  simp only [Act.put, List.setIfInBounds_toArray, List.set_cons_zero, List.set_cons_succ]
  refine wpAnyH_take (i := 12) (oi := { dst := some 19, op := Op.nilCheck (Operand.tmp 18), type := 0, pos := "cell.go:31", after := #[{ on := 11, ground := Ground.data }, { on := 8, ground := Ground.guard }], guard := some (8, false) }) (v := (.pointer (some ⟨g, 0, none⟩))) rfl (by kernel_rfl) (by kernel_rfl) (by kernel_rfl) (fun _ _ _ h => h) (Or.inl ⟨by rfl, fun w hSw => by obtain ⟨s0, s1, s2, s3, s4, s5, s6, s7⟩ := hSw; go_simp⟩) (by assumption) ?_
  simp only [Act.put, List.setIfInBounds_toArray, List.set_cons_zero, List.set_cons_succ]
  refine wpAnyH_take (i := 13) (oi := { dst := some 20, op := Op.fieldAddr 51 (Operand.tmp 19) 0, type := 0, pos := "cell.go:31", after := #[{ on := 12, ground := Ground.data }, { on := 8, ground := Ground.guard }], guard := some (8, false) }) (v := (.pointer (some ⟨g, 0, none⟩))) rfl (by kernel_rfl) (by kernel_rfl) (by kernel_rfl) (fun _ _ _ h => h) (Or.inl ⟨by rfl, fun w hSw => by obtain ⟨s0, s1, s2, s3, s4, s5, s6, s7⟩ := hSw; go_simp⟩) (by assumption) ?_
  simp only [Act.put, List.setIfInBounds_toArray, List.set_cons_zero, List.set_cons_succ]
  refine wpAnyH_take (i := 14) (oi := { dst := some 21, op := Op.load 3 (Operand.tmp 20), type := 3, pos := "cell.go:31", after := #[{ on := 13, ground := Ground.data }, { on := 8, ground := Ground.guard }], guard := some (8, false) }) (v := (.int .i64 n)) rfl (by kernel_rfl) (by kernel_rfl) (by kernel_rfl) (fun _ _ _ h => h) (Or.inl ⟨by rfl, fun w hSw => by obtain ⟨s0, s1, s2, s3, s4, s5, s6, s7⟩ := hSw; go_simp⟩) (by assumption) ?_
  simp only [Act.put, List.setIfInBounds_toArray, List.set_cons_zero, List.set_cons_succ]
  refine wpAnyH_take (i := 15) (oi := { dst := some 22, op := Op.binOp BinOp.neq 3 (Operand.tmp 17) (Operand.tmp 21) 3, type := 4, pos := "cell.go:31", after := #[{ on := 10, ground := Ground.data }, { on := 14, ground := Ground.data }, { on := 8, ground := Ground.guard }], guard := some (8, false) }) (v := (.bool false)) rfl (by kernel_rfl) (by kernel_rfl) (by kernel_rfl) (fun _ _ _ h => h) (Or.inl ⟨by rfl, fun w hSw => by obtain ⟨s0, s1, s2, s3, s4, s5, s6, s7⟩ := hSw; go_simp⟩) (by assumption) ?_
  simp only [Act.put, List.setIfInBounds_toArray, List.set_cons_zero, List.set_cons_succ]
  refine wpAnyH_take (i := 16) (oi := { dst := some 23, op := Op.pick (Operand.tmp 15) (Operand.const (Value.bool true)) (Operand.tmp 22), type := 4, pos := "cell.go:31", after := #[{ on := 8, ground := Ground.data }, { on := 15, ground := Ground.data }], guard := none }) (v := (.bool false)) rfl (by kernel_rfl) (by kernel_rfl) (by kernel_rfl) (fun _ _ _ h => h) (Or.inl ⟨by rfl, fun w hSw => by obtain ⟨s0, s1, s2, s3, s4, s5, s6, s7⟩ := hSw; go_simp⟩) (by assumption) ?_
  simp only [Act.put, List.setIfInBounds_toArray, List.set_cons_zero, List.set_cons_succ]
  refine wpAnyH_done (by kernel_rfl) ?_ _
  have hbA := below_alloc (Below.refl w2.heap.size w2) (.cells #[.int .i64 me, .int .i64 mv] 49)
  have hP := heap_alloc_new w2 (.cells #[.int .i64 me, .int .i64 mv] 49)
  have hO3 := (hbA.block o (blk_lt hO2)).trans hO2
  have hG3 := (hbA.block g (blk_lt hG2)).trans hG2
  have hC3 := Kd.C_below hC2 hbA
  have hb4 := hb3.trans (hbA.mono hb3.size)
  have x4 := (blk_cell hO3 4).trans rfl
  go_upto_region 5 with fail
  clear x4
  revert hP hO3 hG3 hC3 hb4
  generalize hw2 : w2.heap.size = p at *
  generalize w2.alloc (.cells #[.int .i64 me, .int .i64 mv] 49) = w3 at *
  intro hP hO3 hG3 hC3 hb4
  clear hbA q0 q1 q2 q3 q4 q5 q6 q7 p0 p1 p2 p3 p4 p5 p6 p7
  have x0 := (blk_cell hO3 0).trans rfl
  have x1 := (blk_cell hO3 1).trans rfl
  have x2 := (blk_cell hO3 2).trans rfl
  have x3 := (blk_cell hO3 3).trans rfl
  have x4 := (blk_cell hO3 4).trans rfl
  have x5 := (blk_cell hO3 5).trans rfl
  have x6 := (blk_cell hO3 6).trans rfl
  have y0 := (blk_cell hG3 0).trans rfl
  have y1 := (blk_cell hG3 1).trans rfl
  have y2 := (blk_cell hG3 2).trans rfl
  have y3 := (blk_cell hG3 3).trans rfl
  have y4 := (blk_cell hG3 4).trans rfl
  have y5 := (blk_cell hG3 5).trans rfl
  have fg2 := blk_frozen hG3 2
  have fg3 := blk_frozen hG3 3
  have z0 := (blk_cell hP 0).trans rfl
  have z1 := (blk_cell hP 1).trans rfl
  refine wp_region_held_drew (S := fun w' => w'.cell? ⟨o, 3, none⟩ = some (.int .i64 me) ∧ w'.cell? ⟨g, 2, none⟩ = some (.int .i64 e)) (by kernel_rfl) ⟨x3, y2⟩ (fun hHeld => ?_)
  refine wpAnyH_take (i := 0) (oi := { dst := some 33, op := Op.move (Operand.tmp 6), type := 4, pos := "cell.go:37", after := #[], guard := none }) (v := (.bool false)) rfl (by kernel_rfl) (by kernel_rfl) (by kernel_rfl) (fun _ _ _ h => h) (Or.inl ⟨by rfl, fun w hSw => by obtain ⟨s0, s1⟩ := hSw; go_simp⟩) (by assumption) ?_
  simp only [Act.put, List.setIfInBounds_toArray, List.set_cons_zero, List.set_cons_succ]
  refine wpAnyH_take (i := 1) (oi := { dst := some 34, op := Op.move (Operand.tmp 33), type := 4, pos := "cell.go:37", after := #[{ on := 0, ground := Ground.data }], guard := none }) (v := (.bool false)) rfl (by kernel_rfl) (by kernel_rfl) (by kernel_rfl) (fun _ _ _ h => h) (Or.inl ⟨by rfl, fun w hSw => by obtain ⟨s0, s1⟩ := hSw; go_simp⟩) (by assumption) ?_
  simp only [Act.put, List.setIfInBounds_toArray, List.set_cons_zero, List.set_cons_succ]
  refine wpAnyH_take (i := 2) (oi := { dst := some 35, op := Op.fieldAddr 31 (Operand.tmp 3) 3, type := 0, pos := "cell.go:37", after := #[{ on := 1, ground := Ground.guard }], guard := some (1, true) }) (v := undef) rfl (by kernel_rfl) (by kernel_rfl) (by kernel_rfl) (fun _ _ _ h => h) (Or.inr ⟨by rfl, rfl⟩) (by assumption) ?_
  simp only [Act.put, List.setIfInBounds_toArray, List.set_cons_zero, List.set_cons_succ]
  refine wpAnyH_take (i := 3) (oi := { dst := some 36, op := Op.load 3 (Operand.tmp 35), type := 3, pos := "cell.go:37", after := #[{ on := 2, ground := Ground.data }, { on := 1, ground := Ground.guard }], guard := some (1, true) }) (v := undef) rfl (by kernel_rfl) (by kernel_rfl) (by kernel_rfl) (fun _ _ _ h => h) (Or.inr ⟨by rfl, rfl⟩) (by assumption) ?_
  simp only [Act.put, List.setIfInBounds_toArray, List.set_cons_zero, List.set_cons_succ]
  refine wpAnyH_take (i := 4) (oi := { dst := some 37, op := Op.move (Operand.tmp 0), type := 25, pos := "cell.go:37", after := #[{ on := 1, ground := Ground.guard }], guard := some (1, true) }) (v := undef) rfl (by kernel_rfl) (by kernel_rfl) (by kernel_rfl) (fun _ _ _ h => h) (Or.inr ⟨by rfl, rfl⟩) (by assumption) ?_
  simp only [Act.put, List.setIfInBounds_toArray, List.set_cons_zero, List.set_cons_succ]
  refine wpAnyH_take (i := 5) (oi := { dst := some 38, op := Op.nilCheck (Operand.tmp 37), type := 0, pos := "cell.go:37", after := #[{ on := 4, ground := Ground.data }, { on := 1, ground := Ground.guard }], guard := some (1, true) }) (v := undef) rfl (by kernel_rfl) (by kernel_rfl) (by kernel_rfl) (fun _ _ _ h => h) (Or.inr ⟨by rfl, rfl⟩) (by assumption) ?_
  simp only [Act.put, List.setIfInBounds_toArray, List.set_cons_zero, List.set_cons_succ]
  refine wpAnyH_take (i := 6) (oi := { dst := some 39, op := Op.fieldAddr 51 (Operand.tmp 38) 2, type := 0, pos := "cell.go:37", after := #[{ on := 5, ground := Ground.data }, { on := 1, ground := Ground.guard }], guard := some (1, true) }) (v := undef) rfl (by kernel_rfl) (by kernel_rfl) (by kernel_rfl) (fun _ _ _ h => h) (Or.inr ⟨by rfl, rfl⟩) (by assumption) ?_
  simp only [Act.put, List.setIfInBounds_toArray, List.set_cons_zero, List.set_cons_succ]
  refine wpAnyH_take (i := 7) (oi := { dst := some 40, op := Op.indexAddr 49 (Operand.tmp 39) (Operand.const (Value.int IntKind.i64 0)), type := 0, pos := "cell.go:37", after := #[{ on := 6, ground := Ground.data }, { on := 1, ground := Ground.guard }], guard := some (1, true) }) (v := undef) rfl (by kernel_rfl) (by kernel_rfl) (by kernel_rfl) (fun _ _ _ h => h) (Or.inr ⟨by rfl, rfl⟩) (by assumption) ?_
  simp only [Act.put, List.setIfInBounds_toArray, List.set_cons_zero, List.set_cons_succ]
  refine wpAnyH_take (i := 8) (oi := { dst := some 41, op := Op.load 3 (Operand.tmp 40), type := 3, pos := "cell.go:37", after := #[{ on := 7, ground := Ground.data }, { on := 1, ground := Ground.guard }], guard := some (1, true) }) (v := undef) rfl (by kernel_rfl) (by kernel_rfl) (by kernel_rfl) (fun _ _ _ h => h) (Or.inr ⟨by rfl, rfl⟩) (by assumption) ?_
  simp only [Act.put, List.setIfInBounds_toArray, List.set_cons_zero, List.set_cons_succ]
  refine wpAnyH_take (i := 9) (oi := { dst := some 42, op := Op.binOp BinOp.leq 3 (Operand.tmp 36) (Operand.tmp 41) 3, type := 4, pos := "cell.go:37", after := #[{ on := 3, ground := Ground.data }, { on := 8, ground := Ground.data }, { on := 1, ground := Ground.guard }], guard := some (1, true) }) (v := undef) rfl (by kernel_rfl) (by kernel_rfl) (by kernel_rfl) (fun _ _ _ h => h) (Or.inr ⟨by rfl, rfl⟩) (by assumption) ?_
  simp only [Act.put, List.setIfInBounds_toArray, List.set_cons_zero, List.set_cons_succ]
  refine wpAnyH_take (i := 10) (oi := { dst := some 43, op := Op.pick (Operand.tmp 34) (Operand.tmp 42) (Operand.const (Value.bool false)), type := 4, pos := "cell.go:37", after := #[{ on := 1, ground := Ground.data }, { on := 9, ground := Ground.data }], guard := none }) (v := (.bool false)) rfl (by kernel_rfl) (by kernel_rfl) (by kernel_rfl) (fun _ _ _ h => h) (Or.inl ⟨by rfl, fun w hSw => by obtain ⟨s0, s1⟩ := hSw; go_simp⟩) (by assumption) ?_
  simp only [Act.put, List.setIfInBounds_toArray, List.set_cons_zero, List.set_cons_succ]
  refine wpAnyH_take (i := 11) (oi := { dst := some 32, op := Op.assign (Operand.tmp 43), type := 4, pos := "cell.go:37", after := #[{ on := 10, ground := Ground.data }, { on := 1, ground := Ground.chain }], guard := none }) (v := (.bool false)) rfl (by kernel_rfl) (by kernel_rfl) (by kernel_rfl) (fun _ _ _ h => h) (Or.inl ⟨by rfl, fun w hSw => by obtain ⟨s0, s1⟩ := hSw; go_simp⟩) (by assumption) ?_
  simp only [Act.put, List.setIfInBounds_toArray, List.set_cons_zero, List.set_cons_succ]
  refine wpAnyH_done (by kernel_rfl) ?_ _
  go_upto_region 6 with fail
  refine wp_region_held_drew (S := fun w' => w'.cell? ⟨o, 2, none⟩ = some (.int .i64 mb) ∧ w'.cell? ⟨g, 1, none⟩ = some (.int .i64 b) ∧ w'.cell? ⟨g, 2, none⟩ = some (.int .i64 e) ∧ w'.cell? ⟨g, 3, none⟩ = some (.int .i64 v) ∧ w'.cell? ⟨p, 0, none⟩ = some (.int .i64 me) ∧ w'.cell? ⟨p, 1, none⟩ = some (.int .i64 mv)) (by kernel_rfl) ⟨x2, y1, y2, y3, z0, z1⟩ (fun hHeld => ?_)
  refine wpAnyH_take (i := 0) (oi := { dst := some 44, op := Op.move (Operand.tmp 6), type := 4, pos := "cell.go:37", after := #[], guard := none }) (v := (.bool false)) rfl (by kernel_rfl) (by kernel_rfl) (by kernel_rfl) (fun _ _ _ h => h) (Or.inl ⟨by rfl, fun w hSw => by obtain ⟨s0, s1, s2, s3, s4, s5⟩ := hSw; go_simp⟩) (by assumption) ?_
  simp only [Act.put, List.setIfInBounds_toArray, List.set_cons_zero, List.set_cons_succ]
  refine wpAnyH_take (i := 1) (oi := { dst := some 45, op := Op.unOp UnOp.not 4 (Operand.tmp 44), type := 4, pos := "cell.go:37", after := #[{ on := 0, ground := Ground.data }], guard := none }) (v := (.bool true)) rfl (by kernel_rfl) (by kernel_rfl) (by kernel_rfl) (fun _ _ _ h => h) (Or.inl ⟨by rfl, fun w hSw => by obtain ⟨s0, s1, s2, s3, s4, s5⟩ := hSw; go_simp⟩) (by assumption) ?_
  simp only [Act.put, List.setIfInBounds_toArray, List.set_cons_zero, List.set_cons_succ]
  refine wpAnyH_take (i := 2) (oi := { dst := some 46, op := Op.move (Operand.tmp 45), type := 4, pos := "cell.go:37", after := #[{ on := 1, ground := Ground.data }], guard := none }) (v := (.bool true)) rfl (by kernel_rfl) (by kernel_rfl) (by kernel_rfl) (fun _ _ _ h => h) (Or.inl ⟨by rfl, fun w hSw => by obtain ⟨s0, s1, s2, s3, s4, s5⟩ := hSw; go_simp⟩) (by assumption) ?_
  simp only [Act.put, List.setIfInBounds_toArray, List.set_cons_zero, List.set_cons_succ]
  refine wpAnyH_take (i := 3) (oi := { dst := some 47, op := Op.fieldAddr 31 (Operand.tmp 3) 2, type := 0, pos := "cell.go:37", after := #[{ on := 2, ground := Ground.guard }], guard := some (2, true) }) (v := (.pointer (some ⟨o, 2, none⟩))) rfl (by kernel_rfl) (by kernel_rfl) (by kernel_rfl) (fun _ _ _ h => h) (Or.inl ⟨by rfl, fun w hSw => by obtain ⟨s0, s1, s2, s3, s4, s5⟩ := hSw; go_simp⟩) (by assumption) ?_
  simp only [Act.put, List.setIfInBounds_toArray, List.set_cons_zero, List.set_cons_succ]
  refine wpAnyH_take (i := 4) (oi := { dst := some 48, op := Op.load 3 (Operand.tmp 47), type := 3, pos := "cell.go:37", after := #[{ on := 3, ground := Ground.data }, { on := 2, ground := Ground.guard }], guard := some (2, true) }) (v := (.int .i64 mb)) rfl (by kernel_rfl) (by kernel_rfl) (by kernel_rfl) (fun _ _ _ h => h) (Or.inl ⟨by rfl, fun w hSw => by obtain ⟨s0, s1, s2, s3, s4, s5⟩ := hSw; go_simp⟩) (by assumption) ?_
  simp only [Act.put, List.setIfInBounds_toArray, List.set_cons_zero, List.set_cons_succ]
  refine wpAnyH_take (i := 5) (oi := { dst := some 49, op := Op.move (Operand.tmp 0), type := 25, pos := "cell.go:37", after := #[{ on := 2, ground := Ground.guard }], guard := some (2, true) }) (v := (.pointer (some ⟨g, 0, none⟩))) rfl (by kernel_rfl) (by kernel_rfl) (by kernel_rfl) (fun _ _ _ h => h) (Or.inl ⟨by rfl, fun w hSw => by obtain ⟨s0, s1, s2, s3, s4, s5⟩ := hSw; go_simp⟩) (by assumption) ?_
  simp only [Act.put, List.setIfInBounds_toArray, List.set_cons_zero, List.set_cons_succ]
  refine wpAnyH_take (i := 6) (oi := { dst := some 50, op := Op.nilCheck (Operand.tmp 49), type := 0, pos := "cell.go:37", after := #[{ on := 5, ground := Ground.data }, { on := 2, ground := Ground.guard }], guard := some (2, true) }) (v := (.pointer (some ⟨g, 0, none⟩))) rfl (by kernel_rfl) (by kernel_rfl) (by kernel_rfl) (fun _ _ _ h => h) (Or.inl ⟨by rfl, fun w hSw => by obtain ⟨s0, s1, s2, s3, s4, s5⟩ := hSw; go_simp⟩) (by assumption) ?_
  simp only [Act.put, List.setIfInBounds_toArray, List.set_cons_zero, List.set_cons_succ]
  refine wpAnyH_take (i := 7) (oi := { dst := some 51, op := Op.fieldAddr 51 (Operand.tmp 50) 1, type := 0, pos := "cell.go:37", after := #[{ on := 6, ground := Ground.data }, { on := 2, ground := Ground.guard }], guard := some (2, true) }) (v := (.pointer (some ⟨g, 1, none⟩))) rfl (by kernel_rfl) (by kernel_rfl) (by kernel_rfl) (fun _ _ _ h => h) (Or.inl ⟨by rfl, fun w hSw => by obtain ⟨s0, s1, s2, s3, s4, s5⟩ := hSw; go_simp⟩) (by assumption) ?_
  simp only [Act.put, List.setIfInBounds_toArray, List.set_cons_zero, List.set_cons_succ]
  refine wpAnyH_take (i := 8) (oi := { dst := some 52, op := Op.load 3 (Operand.tmp 51), type := 3, pos := "cell.go:37", after := #[{ on := 7, ground := Ground.data }, { on := 2, ground := Ground.guard }], guard := some (2, true) }) (v := (.int .i64 b)) rfl (by kernel_rfl) (by kernel_rfl) (by kernel_rfl) (fun _ _ _ h => h) (Or.inl ⟨by rfl, fun w hSw => by obtain ⟨s0, s1, s2, s3, s4, s5⟩ := hSw; go_simp⟩) (by assumption) ?_
  simp only [Act.put, List.setIfInBounds_toArray, List.set_cons_zero, List.set_cons_succ]
  refine wpAnyH_take (i := 9) (oi := { dst := some 53, op := Op.binOp BinOp.neq 3 (Operand.tmp 48) (Operand.tmp 52) 3, type := 4, pos := "cell.go:37", after := #[{ on := 4, ground := Ground.data }, { on := 8, ground := Ground.data }, { on := 2, ground := Ground.guard }], guard := some (2, true) }) (v := (.bool false)) rfl (by kernel_rfl) (by kernel_rfl) (by kernel_rfl) (fun _ _ _ h => h) (Or.inl ⟨by rfl, fun w hSw => by obtain ⟨s0, s1, s2, s3, s4, s5⟩ := hSw; go_simp⟩) (by assumption) ?_
  simp only [Act.put, List.setIfInBounds_toArray, List.set_cons_zero, List.set_cons_succ]
  refine wpAnyH_take (i := 10) (oi := { dst := some 54, op := Op.move (Operand.tmp 53), type := 4, pos := "cell.go:37", after := #[{ on := 9, ground := Ground.data }, { on := 2, ground := Ground.chain }, { on := 2, ground := Ground.guard }], guard := some (2, true) }) (v := (.bool false)) rfl (by kernel_rfl) (by kernel_rfl) (by kernel_rfl) (fun _ _ _ h => h) (Or.inl ⟨by rfl, fun w hSw => by obtain ⟨s0, s1, s2, s3, s4, s5⟩ := hSw; go_simp⟩) (by assumption) ?_
  simp only [Act.put, List.setIfInBounds_toArray, List.set_cons_zero, List.set_cons_succ]
  refine wpAnyH_take (i := 11) (oi := { dst := some 55, op := Op.move (Operand.tmp 0), type := 25, pos := "cell.go:37", after := #[{ on := 10, ground := Ground.guard }], guard := some (10, false) }) (v := (.pointer (some ⟨g, 0, none⟩))) rfl (by kernel_rfl) (by kernel_rfl) (by kernel_rfl) (fun _ _ _ h => h) (Or.inl ⟨by rfl, fun w hSw => by obtain ⟨s0, s1, s2, s3, s4, s5⟩ := hSw; go_simp⟩) (by assumption) ?_
  simp only [Act.put, List.setIfInBounds_toArray, List.set_cons_zero, List.set_cons_succ]
  refine wpAnyH_take (i := 12) (oi := { dst := some 56, op := Op.nilCheck (Operand.tmp 55), type := 0, pos := "cell.go:37", after := #[{ on := 11, ground := Ground.data }, { on := 10, ground := Ground.guard }], guard := some (10, false) }) (v := (.pointer (some ⟨g, 0, none⟩))) rfl (by kernel_rfl) (by kernel_rfl) (by kernel_rfl) (fun _ _ _ h => h) (Or.inl ⟨by rfl, fun w hSw => by obtain ⟨s0, s1, s2, s3, s4, s5⟩ := hSw; go_simp⟩) (by assumption) ?_
  simp only [Act.put, List.setIfInBounds_toArray, List.set_cons_zero, List.set_cons_succ]
  refine wpAnyH_take (i := 13) (oi := { dst := some 57, op := Op.fieldAddr 51 (Operand.tmp 56) 2, type := 0, pos := "cell.go:37", after := #[{ on := 12, ground := Ground.data }, { on := 10, ground := Ground.guard }], guard := some (10, false) }) (v := (.pointer (some ⟨g, 2, none⟩))) rfl (by kernel_rfl) (by kernel_rfl) (by kernel_rfl) (fun _ _ _ h => h) (Or.inl ⟨by rfl, fun w hSw => by obtain ⟨s0, s1, s2, s3, s4, s5⟩ := hSw; go_simp⟩) (by assumption) ?_
  simp only [Act.put, List.setIfInBounds_toArray, List.set_cons_zero, List.set_cons_succ]
  refine wpAnyH_take (i := 14) (oi := { dst := some 58, op := Op.load 49 (Operand.tmp 57), type := 49, pos := "cell.go:37", after := #[{ on := 13, ground := Ground.data }, { on := 10, ground := Ground.guard }], guard := some (10, false) }) (v := (.agg #[.int .i64 e, .int .i64 v])) rfl (by kernel_rfl) (by kernel_rfl) (by kernel_rfl) (fun _ _ _ h => h) (Or.inl ⟨by rfl, fun w hSw => by obtain ⟨s0, s1, s2, s3, s4, s5⟩ := hSw; go_simp⟩) (by assumption) ?_
  simp only [Act.put, List.setIfInBounds_toArray, List.set_cons_zero, List.set_cons_succ]
  refine wpAnyH_take (i := 15) (oi := { dst := some 59, op := Op.load 49 (Operand.tmp 5), type := 49, pos := "cell.go:37", after := #[{ on := 10, ground := Ground.guard }], guard := some (10, false) }) (v := (.agg #[.int .i64 me, .int .i64 mv])) rfl (by kernel_rfl) (by kernel_rfl) (by kernel_rfl) (fun _ _ _ h => h) (Or.inl ⟨by rfl, fun w hSw => by obtain ⟨s0, s1, s2, s3, s4, s5⟩ := hSw; go_simp⟩) (by assumption) ?_
  simp only [Act.put, List.setIfInBounds_toArray, List.set_cons_zero, List.set_cons_succ]
  refine wpAnyH_ready (rs := [16]) (by kernel_rfl) (by simp) ?_
  refine AllReadyH.cons (o := { dst := some 60, op := Op.call { callee := Callee.value (Operand.func 22), args := #[Operand.tmp 58, Operand.tmp 59], argTypes := #[49, 49] }, type := 4, pos := "cell.go:37", after := #[{ on := 14, ground := Ground.data }, { on := 15, ground := Ground.data }, { on := 10, ground := Ground.chain }, { on := 10, ground := Ground.guard }], guard := some (10, false) }) rfl (fun K hK => ?_) AllReadyH.nil
  go_simp
  go_at_call 22; refine (ahead_any e v me mv _).mono ?_; rintro ee w5 ⟨rfl, hb5⟩; rw [hah]; have hb6 : Below w3.heap.size w3 w5 := Below.trans (below_drew (below_drew (Below.refl _ _))) hb5; have hO5 := (hb6.block o (blk_lt hO3)).trans hO3; have hG5 := (hb6.block g (blk_lt hG3)).trans hG3; have hP5 := (hb6.block p (blk_lt hP)).trans hP; have x2b := (blk_cell hO5 2).trans rfl; have y1b := (blk_cell hG5 1).trans rfl; have y2b := (blk_cell hG5 2).trans rfl; have y3b := (blk_cell hG5 3).trans rfl; have z0b := (blk_cell hP5 0).trans rfl; have z1b := (blk_cell hP5 1).trans rfl
  go_wp2_with fail
  refine hK.out _ _ ⟨x2b, y1b, y2b, y3b, z0b, z1b⟩ (fun hHeld => ?_)
  clear hK K
  try simp only [Act.put, List.setIfInBounds_toArray, List.set_cons_zero, List.set_cons_succ]
  refine wpAnyH_take (i := 17) (oi := { dst := some 61, op := Op.unOp UnOp.not 4 (Operand.tmp 60), type := 4, pos := "cell.go:37", after := #[{ on := 16, ground := Ground.data }, { on := 10, ground := Ground.guard }], guard := some (10, false) }) (v := (.bool false)) rfl (by kernel_rfl) (by kernel_rfl) (by kernel_rfl) (fun _ _ _ h => h) (Or.inl ⟨by rfl, fun w hSw => by obtain ⟨s0, s1, s2, s3, s4, s5⟩ := hSw; go_simp⟩) (by assumption) ?_
  simp only [Act.put, List.setIfInBounds_toArray, List.set_cons_zero, List.set_cons_succ]
  refine wpAnyH_take (i := 18) (oi := { dst := some 62, op := Op.pick (Operand.tmp 54) (Operand.const (Value.bool true)) (Operand.tmp 61), type := 4, pos := "cell.go:37", after := #[{ on := 10, ground := Ground.data }, { on := 17, ground := Ground.data }, { on := 2, ground := Ground.guard }], guard := some (2, true) }) (v := (.bool false)) rfl (by kernel_rfl) (by kernel_rfl) (by kernel_rfl) (fun _ _ _ h => h) (Or.inl ⟨by rfl, fun w hSw => by obtain ⟨s0, s1, s2, s3, s4, s5⟩ := hSw; go_simp⟩) (by assumption) ?_
  simp only [Act.put, List.setIfInBounds_toArray, List.set_cons_zero, List.set_cons_succ]
  refine wpAnyH_take (i := 19) (oi := { dst := some 63, op := Op.pick (Operand.tmp 46) (Operand.tmp 62) (Operand.const (Value.bool false)), type := 4, pos := "cell.go:37", after := #[{ on := 2, ground := Ground.data }, { on := 18, ground := Ground.data }], guard := none }) (v := (.bool false)) rfl (by kernel_rfl) (by kernel_rfl) (by kernel_rfl) (fun _ _ _ h => h) (Or.inl ⟨by rfl, fun w hSw => by obtain ⟨s0, s1, s2, s3, s4, s5⟩ := hSw; go_simp⟩) (by assumption) ?_
  simp only [Act.put, List.setIfInBounds_toArray, List.set_cons_zero, List.set_cons_succ]
  refine wpAnyH_take (i := 20) (oi := { dst := some 32, op := Op.assign (Operand.tmp 63), type := 4, pos := "cell.go:37", after := #[{ on := 19, ground := Ground.data }, { on := 16, ground := Ground.chain }], guard := none }) (v := (.bool false)) rfl (by kernel_rfl) (by kernel_rfl) (by kernel_rfl) (fun _ _ _ h => h) (Or.inl ⟨by rfl, fun w hSw => by obtain ⟨s0, s1, s2, s3, s4, s5⟩ := hSw; go_simp⟩) (by assumption) ?_
  simp only [Act.put, List.setIfInBounds_toArray, List.set_cons_zero, List.set_cons_succ]
  refine wpAnyH_done (by kernel_rfl) ?_ _
  go_upto_region 9 with fail
  have hC5 := Kd.C_below hC3 hb6
  have x5b := (blk_cell hO5 5).trans rfl
  have x6b := (blk_cell hO5 6).trans rfl
  have hgo2 : ∀ j k, (⟨g, j, none⟩ : Addr) ≠ ⟨o, k, none⟩ := by intro j k e; injection e with e; exact hgo e
  clear x0 x1 x2 x3 x4 x5 x6 y0 y1 y2 y3 y4 y5 z0 z1 x2b y1b y2b y3b z0b z1b fg2 fg3
  go_region_held3 (fun w' => w'.cell? ⟨o, 5, none⟩ = some (.int .i64 mu) ∧ w'.cell? ⟨o, 6, none⟩ = some (.slice A mbs.length c)) (first | exact ⟨x5b, x6b⟩ | exact ⟨x5c, x6c⟩ | (refine ⟨?_, ?_⟩ <;> (repeat rw [World.cell?_setCell_other _ _ _ _ (hgo2 _ _)]) <;> assumption))
    (first | (go_at_call 23; refine (clone A c mbs w5.drew (Kd.C_drew hC5) hml).mono ?_; rintro ee w6 ⟨V6, rfl, ho6, hb7⟩; obtain ⟨A6, c6, rfl⟩ := Kd.R_slice ho6; have hO6 := (hb7.block o (blk_lt hO5)).trans hO5; have hG6 := (hb7.block g (blk_lt hG5)).trans hG5; have hP6 := (hb7.block p (blk_lt hP5)).trans hP5; have x5c := (blk_cell hO6 5).trans rfl; have x6c := (blk_cell hO6 6).trans rfl; have fg4 := blk_frozen hG6 4; have fg5 := blk_frozen hG6 5; have y4c := (blk_cell hG6 4).trans rfl; have y5c := (blk_cell hG6 5).trans rfl))
  subst hw0
  have hpg : p ≠ g := by rintro rfl; rw [hP6] at hG6; injection hG6 with hG6; injection hG6 with _ hG6; exact absurd hG6 (by decide)
  have hG7 := blk_put (blk_put hG6 4 (.int .i64 mu) rfl) 5 (.slice A6 mbs.length c6) rfl
  have hP7 := blk_far (p := ⟨g, 5, none⟩) (blk_far (p := ⟨g, 4, none⟩) hP6 hpg (.int .i64 mu)) hpg (.slice A6 mbs.length c6)
  have hR7 := Kd.R_far (Kd.R_far (Kd.R_newB ho6 (g := g) hG5) (p := ⟨g, 4, none⟩) (fun k hk => hk.2) (.int .i64 mu)) (p := ⟨g, 5, none⟩) (fun k hk => hk.2) (.slice A6 mbs.length c6)
  have hb8 : Below w.heap.size w w5 := (HBa.trans (hb4.mono HBa.size)).trans (hb6.mono (HBa.trans (hb4.mono HBa.size)).size)
  have hb9 : Below w.heap.size w w6 := Below.trans hb8.drew (hb7.mono hb8.size)
  have hk7 : KeepBut w ((w6.setCell ⟨g, 4, none⟩ (.int .i64 mu)).setCell ⟨g, 5, none⟩ (.slice A6 mbs.length c6)) g none := ⟨by have := hb9.size; simpa [World.setCell] using this, fun i hi hne _ => (Below.heap_setCell _ ⟨g, 5, none⟩ _ i hne).trans ((Below.heap_setCell _ ⟨g, 4, none⟩ _ i hne).trans (hb9.block i hi))⟩
  have hB7 : Below w0.heap.size w0 ((w6.setCell ⟨g, 4, none⟩ (.int .i64 mu)).setCell ⟨g, 5, none⟩ (.slice A6 mbs.length c6)) := ((hB.trans (hb9.mono hB.size)).setCell (p := ⟨g, 4, none⟩) h.2.1 _).setCell (p := ⟨g, 5, none⟩) h.2.1 _
  have hs5 : w0.heap.size ≤ w5.drew.heap.size := Nat.le_trans hB.size hb8.size
  have hs6 : w.heap.size ≤ w5.drew.heap.size := hb8.size
  replace hR7 := Kd.R_mono (ok' := fun k => k ≠ g ∧ ok k) (Kd.R_lower (Kd.R_bound hR7) hs5) (fun k hk => ⟨hk.1.2, hok k (Nat.le_trans hs6 hk.2.1)⟩)
  generalize (w6.setCell ⟨g, 4, none⟩ (.int .i64 mu)).setCell ⟨g, 5, none⟩ (.slice A6 mbs.length c6) = w7 at *
  have z0 := (blk_cell hP7 0).trans rfl
  have z1 := (blk_cell hP7 1).trans rfl
  have fg2 := blk_frozen hG7 2
  have fg3 := blk_frozen hG7 3
  have y2 := (blk_cell hG7 2).trans rfl
  have y3 := (blk_cell hG7 3).trans rfl
  go_wp2_with fail
  go_ret
  have hge : w0.heap.size ≤ (⟨g, 2, none⟩ : Addr).block := h.2.1
  have hge3 : w0.heap.size ≤ (⟨g, 3, none⟩ : Addr).block := h.2.1
  refine ⟨rfl, ⟨_, blk_put (blk_put hG7 2 (.int .i64 me) rfl) 3 (.int .i64 mv) rfl, h.2.1, Kd.R_far (Kd.R_far hR7 (p := ⟨g, 2, none⟩) (fun k hk => hk.1) _) (p := ⟨g, 3, none⟩) (fun k hk => hk.1) _⟩, (hB7.setCell (p := ⟨g, 2, none⟩) hge _).setCell (p := ⟨g, 3, none⟩) hge3 _, ?_, fun i hi hne hno => ?_⟩
  · have := hk7.1
    simpa [World.setCell] using this
  · exact (Below.heap_setCell _ ⟨g, 3, none⟩ _ i hne).trans ((Below.heap_setCell _ ⟨g, 2, none⟩ _ i hne).trans (hk7.2 i hi hne hno))
end
end Go.Proofs.YtpgifeoigconbaaDoor.Cl
