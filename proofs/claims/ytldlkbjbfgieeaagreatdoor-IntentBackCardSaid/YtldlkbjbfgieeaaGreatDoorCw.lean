/- intent.change: an operation done to a state of one's own. -/
import Derived.Test.YtldlkbjbfgieeaaGreatDoorPuW
import Derived.Test.YtldlkbjbfgieeaaGreatDoorMo
import Derived.Deep.RegionHeld3
import Derived.IntWalk
namespace Go.Proofs.YtldlkbjbfgieeaaGreatDoor.Ch
set_option linter.unusedVariables false
set_option linter.unusedSimpArgs false
open Go.RowKit Go.Proofs.YtldlkbjbfgieeaaGreatDoorW.PrintWords Go.Proofs.YtldlkbjbfgieeaaGreatDoorW.PrintLast Mo Q Rw Cb
abbrev W := S32
abbrev N := S34
/-- a state's struct at block g, its rows -/
def St (w0 w : World) (g : Nat) (e : Int) (V U : Value) (ws : List W) (ns : List N) : Prop :=
 w.heap[g]? = some (.cells #[.int .i64 e, V, U] 27 (0, 0)) ∧ w0.heap.size ≤ g ∧ k32.R 32 w w0.heap.size (fun _ => True) V ws ∧ k34.R 34 w w0.heap.size (fun _ => True) U ns
/-- the operation's value -/
abbrev opV (k : Int) (x : W) (y : N) (id : ByteArray) (want : Int) : Value := .agg #[.int .i64 k, .string x.f0, .int .i64 x.f1, .int .i64 x.f2, .int .i64 x.f3, .int .i64 x.f4, .string x.f5, .string y.f0, .int .i64 y.f1, .int .i64 y.f2, .string y.f3, .bool y.f4, .string id, .int .i64 want]
abbrev opC (k : Int) (x : W) (y : N) (id : ByteArray) (want : Int) : Obj := .cells #[.int .i64 k, .string x.f0, .int .i64 x.f1, .int .i64 x.f2, .int .i64 x.f3, .int .i64 x.f4, .string x.f5, .string y.f0, .int .i64 y.f1, .int .i64 y.f2, .string y.f3, .bool y.f4, .string id, .int .i64 want] 36
abbrev opC' (k : Int) (x : W) (y : N) (id : ByteArray) (want : Int) : Obj := .cells #[.int .i64 k, .string x.f0, .int .i64 x.f1, .int .i64 x.f2, .int .i64 x.f3, .int .i64 x.f4, .string x.f5, .string y.f0, .int .i64 y.f1, .int .i64 y.f2, .string y.f3, .bool y.f4, .string id, .int .i64 want] 36 (0, 0)
/-- what becomes of a state, and the error -/
def chS (e : Int) (ws : List W) (ns : List N) (k : Int) (x : W) (y : N) (id : ByteArray) (want : Int) : Int × List W × List N × Int :=
 if k = 1 then (e, (PuW.putS ws x).1, ns, (PuW.putS ws x).2)
 else if k = 4 then (e, ws, (PuN.putS ns y).1, (PuN.putS ns y).2)
 else if k = 8 then (if e = 1099511627776 then (0, [], [], 120) else (e + 1, ws, ns, 0))
 else if k = 2 then (if FiW.has ws id = true then (e, ws.set (FiW.pos ws id) { ws.getD (FiW.pos ws id) z32 with f1 := want }, ns, 0) else (0, [], [], 122))
 else if k = 3 then (if FiW.has ws id = true then (e, ws.take (FiW.pos ws id) ++ ws.drop (FiW.pos ws id + 1), ns, 0) else (0, [], [], 122))
 else if k = 5 then (if FiN.has ns id = true then (e, ws, ns.take (FiN.pos ns id) ++ ns.drop (FiN.pos ns id + 1), 0) else (0, [], [], 122))
 else (if FiN.has ns id = true then (e, ws, ns.set (FiN.pos ns id) { ns.getD (FiN.pos ns id) z34 with f4 := decide (k = 6) }, 0) else (0, [], [], 122))
/-- what is no row of workloads or nodes, and not at block g, stays -/
def Fr (g : Nat) (w w' : World) : Prop := w.heap.size ≤ w'.heap.size ∧ ∀ k t cs, w.heap[k]? = some (.cells cs t (0, 0)) → k ≠ g → t ≠ 32 → t ≠ 34 → w'.heap[k]? = w.heap[k]?
theorem Fr.below {g : Nat} {w w' : World} (hb : Below w.heap.size w w') : Fr g w w' := ⟨hb.size, fun k t cs h _ _ _ => hb.block k (blk_lt h)⟩
theorem Fr.trans {g : Nat} {w w' w2 : World} (h : Fr g w w') (h' : Fr g w' w2) : Fr g w w2 := ⟨Nat.le_trans h.1 h'.1, fun k t cs hk h1 h2 h3 => (h'.2 k t cs ((h.2 k t cs hk h1 h2 h3).trans hk) h1 h2 h3).trans (h.2 k t cs hk h1 h2 h3)⟩
theorem Fr.drew {g : Nat} {w w' : World} (h : Fr g w w') : Fr g w w'.drew := h
theorem Fr.set {g j : Nat} {w w' : World} {v : Value} (h : Fr g w w') : Fr g w (w'.setCell ⟨g, j, none⟩ v) := h.trans ⟨by simp [World.setCell], fun k t cs hk h1 _ _ => Below.heap_setCell _ _ _ k h1⟩
theorem Fr.row {g e : Nat} {α : Type} {d : Kd α} {w w' : World} {base : Nat} {ok : Nat → Prop} {V : Value} {l : List α} (hR : d.R e w base ok V l) (he : e = 32 ∨ e = 34) (hG : w.grownBy w' V.ownBlock) : Fr g w w' :=
 ⟨hG.size, fun k t cs hk _ h2 h3 => hG.block k (blk_lt hk) (Kd.R_ne hR hk (by rcases he with rfl | rfl; exact fun e => h2 e.symm; exact fun e => h3 e.symm))⟩
def ChPost (w0 w : World) (g : Nat) (r : Int × List W × List N × Int) (e : Ending) (w' : World) : Prop := e = .returned (.int .i64 r.2.2.2) ∧ Below w0.heap.size w0 w' ∧ Fr g w w' ∧ (r.2.2.2 = 0 → ∃ V U, St w0 w' g r.1 V U r.2.1 r.2.2.1)
/-- a state is as it was where something new was laid alone -/
theorem St.below {w0 w w' : World} {g : Nat} {e : Int} {V U : Value} {ws : List W} {ns : List N} (h : St w0 w g e V U ws ns) (hb : Below w.heap.size w w') : St w0 w' g e V U ws ns := ⟨blk_below h.1 hb, h.2.1, Kd.R_below h.2.2.1 hb, Kd.R_below h.2.2.2 hb⟩
theorem St.drew {w0 w : World} {g : Nat} {e : Int} {V U : Value} {ws : List W} {ns : List N} (h : St w0 w g e V U ws ns) : St w0 w.drew g e V U ws ns := h.below (below_drew (Below.refl _ _))
theorem ownW {w : World} {base : Nat} {ok : Nat → Prop} {A : Option Addr} {n c : Nat} {l : List W} (h : k32.R 32 w base ok (.slice A n c) l) (hl : 0 < l.length) : ∃ q, A = some ⟨q, 0, none⟩ := by
 rcases (InW.R_iff.1 h).2.2 with ⟨_, h0⟩ | ⟨q, cap, cur, e, _⟩
 ·omega
 ·injection e with e; exact ⟨q, e⟩
theorem ownN {w : World} {base : Nat} {ok : Nat → Prop} {A : Option Addr} {n c : Nat} {l : List N} (h : k34.R 34 w base ok (.slice A n c) l) (hl : 0 < l.length) : ∃ q, A = some ⟨q, 0, none⟩ := by
 rcases (InN.R_iff.1 h).2.2 with ⟨_, h0⟩ | ⟨q, cap, cur, e, _⟩
 ·omega
 ·injection e with e; exact ⟨q, e⟩
theorem setWant {w : World} {base q n c p : Nat} {ok : Nat → Prop} {l : List W} (h : k32.R 32 w base ok (.slice (some ⟨q, 0, none⟩) n c) l) (hp : p < n) (want : Int) :
 (∃ u, w.cell? ⟨q, p * 6 + 1, none⟩ = some u) ∧ w.frozen? ⟨q, p * 6 + 1, none⟩ = false ∧ k32.R 32 (w.setCell ⟨q, p * 6 + 1, none⟩ (.int .i64 want)) base ok (.slice (some ⟨q, 0, none⟩) n c) (l.set p { l.getD p z32 with f1 := want }) ∧ w.grownBy (w.setCell ⟨q, p * 6 + 1, none⟩ (.int .i64 want)) (some q) := by
 obtain ⟨cc, h1, h2, h3, h4⟩ := Kd.R_elem h z32 (p : Int) (by omega) (by omega)
 rw [Int.toNat_natCast] at h2 h3 h4
 have hc := k32_openM h2
 subst hc
 have h5 := Kd.R_seg (okp := fun _ => False) h (p : Int) (by omega) (by omega) (seg := [.int .i64 want]) (j := 1) h1 (by rw [Int.toNat_natCast]; exact h3) (Nat.le_of_ble_eq_true rfl) (x' := { l.getD p z32 with f1 := want }) (k32_mkM _ _ _ _) (fun _ hf => hf.elim)
 rw [Int.toNat_natCast] at h5
 exact ⟨⟨_, h3 1 _ rfl⟩, h4 1, h5.1, h5.2⟩
theorem setCord {w : World} {base q n c p : Nat} {ok : Nat → Prop} {l : List N} (h : k34.R 34 w base ok (.slice (some ⟨q, 0, none⟩) n c) l) (hp : p < n) (b : Bool) :
 (∃ u, w.cell? ⟨q, p * 5 + 4, none⟩ = some u) ∧ w.frozen? ⟨q, p * 5 + 4, none⟩ = false ∧ k34.R 34 (w.setCell ⟨q, p * 5 + 4, none⟩ (.bool b)) base ok (.slice (some ⟨q, 0, none⟩) n c) (l.set p { l.getD p z34 with f4 := b }) ∧ w.grownBy (w.setCell ⟨q, p * 5 + 4, none⟩ (.bool b)) (some q) := by
 obtain ⟨cc, h1, h2, h3, h4⟩ := Kd.R_elem h z34 (p : Int) (by omega) (by omega)
 rw [Int.toNat_natCast] at h2 h3 h4
 have hc := k34_openM h2
 subst hc
 have h5 := Kd.R_seg (okp := fun _ => False) h (p : Int) (by omega) (by omega) (seg := [.bool b]) (j := 4) h1 (by rw [Int.toNat_natCast]; exact h3) (Nat.le_of_ble_eq_true rfl) (x' := { l.getD p z34 with f4 := b }) (k34_mkM _ _ _ _) (fun _ hf => hf.elim)
 rw [Int.toNat_natCast] at h5
 exact ⟨⟨_, h3 4 _ rfl⟩, h4 4, h5.1, h5.2⟩
theorem has_lt {ws : List W} {id : ByteArray} (h : FiW.has ws id = true) : FiW.pos ws id < ws.length := by
 unfold FiW.has at h
 simp only [Bool.and_eq_true, decide_eq_true_eq] at h
 exact h.1
theorem has_ltN {ns : List N} {id : ByteArray} (h : FiN.has ns id = true) : FiN.pos ns id < ns.length := by
 unfold FiN.has at h
 simp only [Bool.and_eq_true, decide_eq_true_eq] at h
 exact h.1
end Go.Proofs.YtldlkbjbfgieeaaGreatDoor.Ch
namespace Go.Proofs.YtldlkbjbfgieeaaGreatDoor.Ch
set_option linter.unusedVariables false
set_option linter.unusedSimpArgs false
open Go.RowKit Go.Proofs.YtldlkbjbfgieeaaGreatDoorW.PrintWords Go.Proofs.YtldlkbjbfgieeaaGreatDoorW.PrintLast Mo Q Rw Cb
theorem St.set0 {w0 w : World} {g : Nat} {e e' : Int} {V U : Value} {ws : List W} {ns : List N} (h : St w0 w g e V U ws ns) : St w0 (w.setCell ⟨g, 0, none⟩ (.int .i64 e')) g e' V U ws ns :=
 ⟨blk_put h.1 0 _ rfl, h.2.1, Kd.R_set h.2.2.1 h.1 (by decide) 0 _, Kd.R_set h.2.2.2 h.1 (by decide) 0 _⟩
set_option maxHeartbeats 8000000 in
set_option maxRecDepth 100000 in
theorem ch_putW (g : Nat) (e : Int) (V U : Value) (ws : List W) (ns : List N) (x : W) (y : N) (id : ByteArray) (want : Int) (w0 w : World) (h : St w0 w g e V U ws ns) (hB : Below w0.heap.size w0 w) (hW : FiW.Asc ws) (hN : FiN.Asc ns) (hl : ws.length ≤ 8) (hm : ns.length ≤ 8) :
 Calls Tryz.prog 32 #[.pointer (some ⟨g, 0, none⟩), opV 1 x y id want] w (ChPost w0 w g (chS e ws ns 1 x y id want)) := by
 obtain ⟨r, hr⟩ : ∃ r, r = chS e ws ns 1 x y id want := ⟨_, rfl⟩
 rw [← hr]
 unfold chS at hr
 rw [if_pos rfl] at hr
 replace hr := Lib.hid hr
 replace hW := Lib.hid hW
 replace hN := Lib.hid hN
 have hgs := h.2.1
 have hg0 := blk_lt h.1
 obtain ⟨A, c, rfl⟩ := Kd.R_slice h.2.2.1
 obtain ⟨B, d, rfl⟩ := Kd.R_slice h.2.2.2
 have hlc : Hid (ws.length ≤ c) := Lib.hid (Kd.R_reads' h.2.2.1).2.1
 have hmd : Hid (ns.length ≤ d) := Lib.hid (Kd.R_reads' h.2.2.2).2.1
 obtain ⟨o, ho⟩ : ∃ o, o = w.heap.size := ⟨_, rfl⟩
 have hgo : g ≠ o := by omega
 have HB := below_alloc (Below.refl w.heap.size w) (opC 1 x y id want)
 have hO := blk_new w (opC 1 x y id want)
 rw [← ho] at hO
 replace h := h.below HB
 have hCW := (Kd.R_reads' h.2.2.1).2.2
 have hCN := (Kd.R_reads' h.2.2.2).2.2
 have hB1 := below_then hB hB.size HB
 have hos : Hid (w0.heap.size ≤ o) := Lib.hid (by omega)
 replace ho := Lib.hid ho
 have hF : Fr g w (w.alloc (opC 1 x y id want)) := Fr.below HB
 go_enter Tryz.func32, Tryz.ntmps32
 go_wp2_with fail
 rw [← ho.out]
 revert hF; revert hB1; revert hCN; revert hCW; revert h; revert hO; revert HB
 generalize w.alloc (opC 1 x y id want) = wa
 intro HB hO h hCW hCN hB1 hF
 clear hB HB ho
 have s1 := (blk_cell h.1 1).trans rfl
 have o12 := (blk_cell hO 12).trans rfl
 go_region_held3 (fun w' => w'.cell? ⟨g, 1, none⟩ = some (.slice A ws.length c) ∧ w'.cell? ⟨o, 12, none⟩ = some (.string id)) (first | exact ⟨s1, o12⟩ | exact ⟨s1a, o12a⟩) (first | (go_at_call 69; refine (FiW.find_any A c ws id _ (Kd.C_below hCW (below_drew (Below.refl _ _))) hW.out (by omega)).mono ?_; rintro e1 w1 ⟨rfl, hb1⟩; have h1 := h.drew.below hb1; have hO1 := blk_below (blk_drew hO) hb1; have s1a := (blk_cell h1.1 1).trans rfl; have o12a := (blk_cell hO1 12).trans rfl; have hB2 := below_then (below_drew hB1) (below_drew hB1).size hb1; have hCN1 := Kd.C_below (Kd.C_below hCN (below_drew (Below.refl _ _))) hb1; have s2 := (blk_cell h1.1 2).trans rfl; have hF1 := hF.drew.trans (Fr.below hb1); clear s1 o12 hb1 h hO hCW hCN hB1 hF))
 all_goals
  go_wp2_with fail
  go_region_held3 (fun w' => w'.cell? ⟨g, 2, none⟩ = some (.slice B ns.length d) ∧ w'.cell? ⟨o, 12, none⟩ = some (.string id)) (first | exact ⟨s2, o12a⟩ | exact ⟨s2b, o12b⟩) (first | (go_at_call 71; refine (FiN.find_any B d ns id _ (Kd.C_below hCN1 (below_drew (Below.refl _ _))) hN.out (by omega)).mono ?_; rintro e2 w2 ⟨rfl, hb2⟩; have h2 := h1.drew.below hb2; have hO2 := blk_below (blk_drew hO1) hb2; have s2b := (blk_cell h2.1 2).trans rfl; have o12b := (blk_cell hO2 12).trans rfl; have hB3 := below_then (below_drew hB2) (below_drew hB2).size hb2; have s0 := (blk_cell h2.1 0).trans rfl; have s1 := (blk_cell h2.1 1).trans rfl; have f0 := blk_frozen h2.1 0; have f1 := blk_frozen h2.1 1; have f2 := blk_frozen h2.1 2; have o0 := (blk_cell hO2 0).trans rfl; have hF2 := hF1.drew.trans (Fr.below hb2); clear hb2 h1 hO1 s2 o12a hCN1 hB2 s1a hF1))
  all_goals
   go_wp2_with fail
   have h3 := h2.drew
   have hO3 := blk_drew hO2
   refine start_ (n := 15) (S := fun w' => w'.cell? ⟨g, 1, none⟩ = some (.slice A ws.length c) ∧ w'.cell? ⟨o, 1, none⟩ = some (.string x.f0) ∧ w'.cell? ⟨o, 2, none⟩ = some (.int .i64 x.f1) ∧ w'.cell? ⟨o, 3, none⟩ = some (.int .i64 x.f2) ∧ w'.cell? ⟨o, 4, none⟩ = some (.int .i64 x.f3) ∧ w'.cell? ⟨o, 5, none⟩ = some (.int .i64 x.f4) ∧ w'.cell? ⟨o, 6, none⟩ = some (.string x.f5)) (ds := [13]) (upT 15 0) (by kernel_rfl) rfl (by kernel_rfl) (⟨(blk_cell h3.1 1).trans rfl, (blk_cell hO3 1).trans rfl, (blk_cell hO3 2).trans rfl, (blk_cell hO3 3).trans rfl, (blk_cell hO3 4).trans rfl, (blk_cell hO3 5).trans rfl, (blk_cell hO3 6).trans rfl⟩) (fun hHeld => ?_)
   iterate 4 (refine pu 36 (v := ?_) (a' := ?_) rfl rfl (by kernel_rfl) (fun _ _ _ h => h) (Or.inl ⟨by rfl, ?_⟩) ?_ ?_; rotate_left; (·intro w'; go_simp; with_reducible rfl); rotate_left; (·simp only [Act.put, List.setIfInBounds_toArray, List.set_cons_zero, List.set_cons_succ, i64_w, i32_w, Nat.reduceAdd]; rfl); conv => arg 8; arg 2; simp only [Nat.reduceAdd])
   refine tu 36 (v := ?_) (a' := ?_) rfl rfl (by kernel_rfl) (fun _ _ _ h => h) (Or.inl ⟨by rfl, ?_⟩) hHeld ?_ ?_; rotate_left; (·rintro w' ⟨s0_, s1_, s2_, s3_, s4_, s5_, s6_⟩; go_simp; with_reducible rfl); rotate_left; (·simp only [Act.put, List.setIfInBounds_toArray, List.set_cons_zero, List.set_cons_succ, i64_w, i32_w, Nat.reduceAdd]; rfl); conv => arg 8; arg 2; simp only [Nat.reduceAdd]
   refine pu 36 (v := ?_) (a' := ?_) rfl rfl (by kernel_rfl) (fun _ _ _ h => h) (Or.inl ⟨by rfl, ?_⟩) ?_ ?_; rotate_left; (·intro w'; go_simp; with_reducible rfl); rotate_left; (·simp only [Act.put, List.setIfInBounds_toArray, List.set_cons_zero, List.set_cons_succ, i64_w, i32_w, Nat.reduceAdd]; rfl); conv => arg 8; arg 2; simp only [Nat.reduceAdd]
   refine tu 36 (v := ?_) (a' := ?_) rfl rfl (by kernel_rfl) (fun _ _ _ h => h) (Or.inl ⟨by rfl, ?_⟩) hHeld ?_ ?_; rotate_left; (·rintro w' ⟨s0_, s1_, s2_, s3_, s4_, s5_, s6_⟩; go_simp; with_reducible rfl); rotate_left; (·simp only [Act.put, List.setIfInBounds_toArray, List.set_cons_zero, List.set_cons_succ, i64_w, i32_w, Nat.reduceAdd]; rfl); conv => arg 8; arg 2; simp only [Nat.reduceAdd]
   refine one_ (i := 7) (N := some 43) (upT 15 8) rfl rfl (by kernel_rfl) (by decide) (fun K hK => ?_)
   refine goes_ Tryz.func73 (by kernel_rfl) rfl #[.slice A ws.length c, .func (.func 70) #[] #[], .agg #[.string x.f0, .int .i64 x.f1, .int .i64 x.f2, .int .i64 x.f3, .int .i64 x.f4, .string x.f5]] (by rfl) rfl rfl (by (try simp only [List.map_toArray, List.map_cons, List.map_nil]); rfl) ?_
   refine (PuW.put_any _ ws x (fun _ => True) w0 _ (below_drew hB3) h3.2.2.1 hW.out (fun _ _ => trivial) (by omega)).mono ?_
   rintro e3 w3 ⟨V3, rfl, hR3, hB4, hG3⟩
   have hg4 := blk_grown h3.1 hG3 (Kd.R_ne h3.2.2.1 h3.1 (by decide))
   have hO4 := blk_grown hO3 hG3 (Kd.R_ne h3.2.2.1 hO3 (by decide))
   have hR4 := Kd.R_over h3.2.2.2 h3.2.2.1 (by decide) hG3
   obtain ⟨A3, c3, rfl⟩ := Kd.R_slice hR3
   refine ⟨_, rfl, ?_⟩
   refine hK.out _ _ ⟨(blk_cell hg4 1).trans rfl, (blk_cell hO4 1).trans rfl, (blk_cell hO4 2).trans rfl, (blk_cell hO4 3).trans rfl, (blk_cell hO4 4).trans rfl, (blk_cell hO4 5).trans rfl, (blk_cell hO4 6).trans rfl⟩ (fun hHeld => ?_)
   clear hK K
   refine norm_ (a' := ?_) ?_ ?_
   rotate_left
   ·show Act.put _ (some 43) _ = _
    simp only [Act.put, List.setIfInBounds_toArray, List.set_cons_zero, List.set_cons_succ, i64_w, i32_w, Nat.reduceAdd]
    rfl
   refine pu 27 (v := ?_) (a' := ?_) rfl rfl (by kernel_rfl) (fun _ _ _ h => h) (Or.inl ⟨by rfl, ?_⟩) ?_ ?_; rotate_left; (·intro w'; go_simp; with_reducible rfl); rotate_left; (·simp only [Act.put, List.setIfInBounds_toArray, List.set_cons_zero, List.set_cons_succ, i64_w, i32_w, Nat.reduceAdd]; rfl); conv => arg 8; arg 2; simp only [Nat.reduceAdd]
   iterate 4 (refine pu 35 (v := ?_) (a' := ?_) rfl rfl (by kernel_rfl) (fun _ _ _ h => h) (Or.inl ⟨by rfl, ?_⟩) ?_ ?_; rotate_left; (·intro w'; go_simp; with_reducible rfl); rotate_left; (·simp only [Act.put, List.setIfInBounds_toArray, List.set_cons_zero, List.set_cons_succ, i64_w, i32_w, Nat.reduceAdd]; rfl); conv => arg 8; arg 2; simp only [Nat.reduceAdd])
   refine last_ (i := 13) (N := none) (upT 15 14) rfl rfl (by kernel_rfl) (by decide) (fun K hK => ?_)
   have hs_ := (blk_cell hg4 1).trans rfl
   have hf_ := blk_frozen hg4 1
   refine skip_ (w1 := ?_) (by rfl) rfl ?_ ?_
   rotate_left
   ·go_simp
    rfl
   refine hK.out _ _ ?_
   clear hK K
   refine pure_ (i := 14) (N := some 4) (v := ?_) (a' := ?_) (upT 15 15) rfl rfl (by kernel_rfl) (fun _ _ _ h => h) (Or.inl ⟨by rfl, ?_⟩) ?_ ?_; rotate_left; (·intro w'; go_simp; with_reducible rfl); rotate_left; (·simp only [Act.put, List.setIfInBounds_toArray, List.set_cons_zero, List.set_cons_succ, i64_w, i32_w, Nat.reduceAdd]; rfl)
   refine done_ (by kernel_rfl) ?_
   go_wp2_with fail
   go_ret
   rw [hr.out]
   exact ⟨rfl, hB4.setCell (p := ⟨g, 1, none⟩) hgs _, (hF2.drew.trans (Fr.row h3.2.2.1 (.inl rfl) hG3)).set, fun _ => ⟨_, _, blk_put hg4 1 _ rfl, hgs, Kd.R_set hR3 hg4 (by decide) 1 _, Kd.R_set hR4 hg4 (by decide) 1 _⟩⟩
set_option maxHeartbeats 8000000 in
set_option maxRecDepth 100000 in
theorem ch_none2 (g : Nat) (e : Int) (V U : Value) (ws : List W) (ns : List N) (x : W) (y : N) (id : ByteArray) (want : Int) (w0 w : World) (h : St w0 w g e V U ws ns) (hB : Below w0.heap.size w0 w) (hW : FiW.Asc ws) (hN : FiN.Asc ns) (hl : ws.length ≤ 8) (hm : ns.length ≤ 8) (hh : FiW.has ws id = false) :
 Calls Tryz.prog 32 #[.pointer (some ⟨g, 0, none⟩), opV 2 x y id want] w (ChPost w0 w g (chS e ws ns 2 x y id want)) := by
 obtain ⟨r, hr⟩ : ∃ r, r = chS e ws ns 2 x y id want := ⟨_, rfl⟩
 rw [← hr]
 unfold chS at hr
 have hh' : ¬ FiW.has ws id = true := by rw [hh]; decide
 rw [if_neg (by decide), if_neg (by decide), if_neg (by decide), if_pos rfl, if_neg hh'] at hr
 clear hh'
 replace hr := Lib.hid hr
 replace hW := Lib.hid hW
 replace hN := Lib.hid hN
 have hgs := h.2.1
 have hg0 := blk_lt h.1
 obtain ⟨A, c, rfl⟩ := Kd.R_slice h.2.2.1
 obtain ⟨B, d, rfl⟩ := Kd.R_slice h.2.2.2
 have hlc : Hid (ws.length ≤ c) := Lib.hid (Kd.R_reads' h.2.2.1).2.1
 have hmd : Hid (ns.length ≤ d) := Lib.hid (Kd.R_reads' h.2.2.2).2.1
 obtain ⟨o, ho⟩ : ∃ o, o = w.heap.size := ⟨_, rfl⟩
 have hgo : g ≠ o := by omega
 have HB := below_alloc (Below.refl w.heap.size w) (opC 2 x y id want)
 have hO := blk_new w (opC 2 x y id want)
 rw [← ho] at hO
 replace h := h.below HB
 have hCW := (Kd.R_reads' h.2.2.1).2.2
 have hCN := (Kd.R_reads' h.2.2.2).2.2
 have hB1 := below_then hB hB.size HB
 have hos : Hid (w0.heap.size ≤ o) := Lib.hid (by omega)
 replace ho := Lib.hid ho
 have hF : Fr g w (w.alloc (opC 2 x y id want)) := Fr.below HB
 go_enter Tryz.func32, Tryz.ntmps32
 go_wp2_with fail
 rw [← ho.out]
 revert hF; revert hB1; revert hCN; revert hCW; revert h; revert hO; revert HB
 generalize w.alloc (opC 2 x y id want) = wa
 intro HB hO h hCW hCN hB1 hF
 clear hB HB ho
 have s1 := (blk_cell h.1 1).trans rfl
 have o12 := (blk_cell hO 12).trans rfl
 go_region_held3 (fun w' => w'.cell? ⟨g, 1, none⟩ = some (.slice A ws.length c) ∧ w'.cell? ⟨o, 12, none⟩ = some (.string id)) (first | exact ⟨s1, o12⟩ | exact ⟨s1a, o12a⟩) (first | (go_at_call 69; refine (FiW.find_any A c ws id _ (Kd.C_below hCW (below_drew (Below.refl _ _))) hW.out (by omega)).mono ?_; rintro e1 w1 ⟨rfl, hb1⟩; have h1 := h.drew.below hb1; have hO1 := blk_below (blk_drew hO) hb1; have s1a := (blk_cell h1.1 1).trans rfl; have o12a := (blk_cell hO1 12).trans rfl; have hB2 := below_then (below_drew hB1) (below_drew hB1).size hb1; have hCN1 := Kd.C_below (Kd.C_below hCN (below_drew (Below.refl _ _))) hb1; have s2 := (blk_cell h1.1 2).trans rfl; have hF1 := hF.drew.trans (Fr.below hb1); clear s1 o12 hb1 h hO hCW hCN hB1 hF))
 all_goals
  go_wp2_with fail
  go_region_held3 (fun w' => w'.cell? ⟨g, 2, none⟩ = some (.slice B ns.length d) ∧ w'.cell? ⟨o, 12, none⟩ = some (.string id)) (first | exact ⟨s2, o12a⟩ | exact ⟨s2b, o12b⟩) (first | (go_at_call 71; refine (FiN.find_any B d ns id _ (Kd.C_below hCN1 (below_drew (Below.refl _ _))) hN.out (by omega)).mono ?_; rintro e2 w2 ⟨rfl, hb2⟩; have h2 := h1.drew.below hb2; have hO2 := blk_below (blk_drew hO1) hb2; have s2b := (blk_cell h2.1 2).trans rfl; have o12b := (blk_cell hO2 12).trans rfl; have hB3 := below_then (below_drew hB2) (below_drew hB2).size hb2; have s0 := (blk_cell h2.1 0).trans rfl; have s1 := (blk_cell h2.1 1).trans rfl; have f0 := blk_frozen h2.1 0; have f1 := blk_frozen h2.1 1; have f2 := blk_frozen h2.1 2; have o0 := (blk_cell hO2 0).trans rfl; have hF2 := hF1.drew.trans (Fr.below hb2); clear hb2 h1 hO1 s2 o12a hCN1 hB2 s1a hF1))
  all_goals
   go_wp2_with fail
   go_ret
   rw [hr.out]
   exact ⟨rfl, hB3, hF2, fun h => absurd h (by decide)⟩
theorem change_any (k : Int) (g : Nat) (e : Int) (V U : Value) (ws : List W) (ns : List N) (x : W) (y : N) (id : ByteArray) (want : Int) (w0 w : World) (h : St w0 w g e V U ws ns) (hB : Below w0.heap.size w0 w) (hW : FiW.Asc ws) (hN : FiN.Asc ns) (hl : ws.length ≤ 8) (hm : ns.length ≤ 8) (he : 0 ≤ e ∧ e ≤ 1099511627776) (hk : k = 1 ∨ k = 2 ∧ FiW.has ws id = false) :
 Calls Tryz.prog 32 #[.pointer (some ⟨g, 0, none⟩), opV k x y id want] w (ChPost w0 w g (chS e ws ns k x y id want)) := by
 rcases hk with rfl | ⟨rfl, hh⟩
 ·exact ch_putW g e V U ws ns x y id want w0 w h hB hW hN hl hm
 ·exact ch_none2 g e V U ws ns x y id want w0 w h hB hW hN hl hm hh
end Go.Proofs.YtldlkbjbfgieeaaGreatDoor.Ch
