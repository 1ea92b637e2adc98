/- label.read, label.IsSelector. -/
/- thin -/
import Derived.Test.YtldlkbjbfgieeaaGreatDoorLb
import Derived.Test.YtldlkbjbfgieeaaGreatDoorCb
import Derived.Deep.LoopGhost
import Derived.Lib.Hide
import Derived.RegionTactic
namespace Go.Proofs.YtldlkbjbfgieeaaGreatDoor.Lb
set_option linter.unusedVariables false
set_option linter.unusedSimpArgs false
open Go.RowKit Go.Proofs.YtldlkbjbfgieeaaGreatDoorW.PrintWords Go.Proofs.YtldlkbjbfgieeaaGreatDoorW.PrintLast Mo Q Go.Proofs.YtldlkbjbfgieeaaGreatDoor.Nm
abbrev anyB : ByteArray := ⟨#[97, 110, 121]⟩
def trimS (s : ByteArray) : ByteArray := ⟨(Lib.trimSuffix s.data.toList [33]).toArray⟩
def sufS (s : ByteArray) : Bool := Lib.hasSuffix s.data.toList [33]
def preS (s : ByteArray) : Bool := Lib.hasPrefix s.data.toList [33]
/-- a term before its names are looked at -/
def rawS (s : ByteArray) : Int × ByteArray × ByteArray :=
 if (cutS s).2.2 = true then (if sufS (cutS s).1 = true then (4, trimS (cutS s).1, (cutS s).2.1) else (3, (cutS s).1, (cutS s).2.1))
 else if preS (cutS s).1 = true then (2, (cutS s).1.extract 1 (cutS s).1.size, anyB) else (1, (cutS s).1, anyB)
def readS (s : ByteArray) : Int × ByteArray × ByteArray := if nm (rawS s).2.1 = true ∧ nm (rawS s).2.2 = true then rawS s else (0, ByteArray.empty, ByteArray.empty)
def RePost (w : World) (r : Int × ByteArray × ByteArray) (e : Ending) (w' : World) : Prop := e = .returned (.agg #[.int .i64 r.1, .string r.2.1, .string r.2.2]) ∧ Below w.heap.size w w'
theorem cut_size (s : ByteArray) : (cutS s).1.size ≤ s.size := by
 unfold cutS
 split
 ·exact Nat.le_refl _
 ·show (s.extract 0 _).size ≤ _
  rw [ByteArray.size_extract]; omega
theorem pre_pos {k : ByteArray} (h : preS k = true) : 1 ≤ k.size := by
 unfold preS at h
 rcases Nat.eq_zero_or_pos k.size with h0 | h0
 ·exfalso
  have : k.data.toList = [] := List.eq_nil_of_length_eq_zero (by rw [Array.length_toList]; exact h0)
  rw [this] at h
  exact absurd h (by decide)
 ·exact h0
theorem grownS (W : World) (o j : Nat) (v : Value) : W.grownBy (W.setCell ⟨o, j, none⟩ v) (some o) := ⟨rfl, rfl, rfl, by simp [World.setCell], fun k _ hk => Below.heap_setCell _ _ _ k (fun e => hk (by rw [e]))⟩
theorem put3 {w2 : World} {o t : Nat} {z0 z1 z2 : Value} (a0 a1 a2 : Value) (h : w2.heap[o]? = some (.cells #[z0, z1, z2] t (0, 0))) : (((w2.setCell ⟨o, 0, none⟩ a0).setCell ⟨o, 1, none⟩ a1).setCell ⟨o, 2, none⟩ a2).heap[o]? = some (.cells #[a0, a1, a2] t (0, 0)) ∧ w2.grownBy (((w2.setCell ⟨o, 0, none⟩ a0).setCell ⟨o, 1, none⟩ a1).setCell ⟨o, 2, none⟩ a2) (some o) := by
 have h0 := blk_put h 0 a0 (cs' := #[a0, z1, z2]) rfl
 have h1 := blk_put h0 1 a1 (cs' := #[a0, a1, z2]) rfl
 have h2 := blk_put h1 2 a2 (cs' := #[a0, a1, a2]) rfl
 exact ⟨h2, ((grownS _ _ _ _).trans (grownS _ _ _ _)).trans (grownS _ _ _ _)⟩
set_option maxHeartbeats 4000000 in
theorem read_4 (s k v bare : ByteArray) (nt pre : Bool) (w : World) (r : Int × ByteArray × ByteArray) (hk : k.size < 4294967281)
 (hC : Aside0 (∀ w, Calls Tryz.prog 124 #[.string s, .string equals] w fun e w' => e = .returned (.tuple #[.string k, .string v, .bool true]) ∧ Below w.heap.size w w'))
 (hS : Aside0 (∀ w, Calls Tryz.prog 137 #[.string k, .string ⟨#[33]⟩] w fun e w' => e = .returned (.tuple #[.string bare, .bool true]) ∧ w' = w))
 (hP : Aside0 (∀ w, Calls Tryz.prog 138 #[.string k, .string ⟨#[33]⟩] w fun e w' => e = .returned (.bool pre) ∧ w' = w))
 (f1 : nm bare = false → r = (0, ByteArray.empty, ByteArray.empty)) (f2 : nm bare = true → nm v = false → r = (0, ByteArray.empty, ByteArray.empty)) (f3 : nm bare = true → nm v = true → r = (4, bare, v)) :
 Calls Tryz.prog 123 #[.string s] w (RePost w r) := by
 cases h1 : nm bare with
 | false =>
  have f := Lib.hid (f1 h1)
  clear f1 f2 f3
  go_enter Tryz.func123, Tryz.ntmps123
  go_wp2_with (first | (go_at_call 124; refine (hC.out _).mono ?_; rintro e w1 ⟨rfl, hb1⟩; have hG1 := blk_below (blk_new w _) hb1; have HB1 := below_then (below_alloc (Below.refl w.heap.size w) _) (by simp) hb1; have hg1 : w.heap.size < w1.heap.size := blk_lt hG1) | (go_at_call 137; refine (hS.out _).mono ?_; rintro e w1a ⟨rfl, rfl⟩) | (go_at_call 138; refine (hP.out _).mono ?_; rintro e w1b ⟨rfl, rfl⟩))
  refine (name_any _ _).mono ?_; rintro e w2 ⟨rfl, hb2⟩
  have hw1 := hg1
  have hG2 := blk_below (show _ = _ from (blk_alloc hG1 _)) hb2
  have hO2 := blk_below (show _ = _ from (blk_new _ (.cells #[.int .i64 4, .string bare, .string v] 153))) hb2
  have HB2 : Below w.heap.size w w2 := below_then (below_alloc HB1 _) (by simp; omega) hb2
  clear hb2
  have g0 := (blk_cell hG2 0).trans rfl
  have g1 := (blk_cell hG2 1).trans rfl
  have g2 := (blk_cell hG2 2).trans rfl
  have o0 := (blk_cell hO2 0).trans rfl
  have o1 := (blk_cell hO2 1).trans rfl
  have o2 := (blk_cell hO2 2).trans rfl
  have f0 := blk_frozen hG2 0
  have f1 := blk_frozen hG2 1
  have f2 := blk_frozen hG2 2
  rw [h1]
  obtain ⟨hG9, hG9'⟩ := put3 (.int .i64 0) (.string ⟨#[]⟩) (.string ⟨#[]⟩) hG2
  replace hG9 := Lib.hid hG9
  replace hG9' := Lib.hid hG9'
  go_wp2_with fail
  refine bodyPost_ret (results_cell_row rfl _ _ w.heap.size 153 _ (0, 0) _ rfl hG9.out Tryz.underlying153 rfl (by kernel_rfl)) rfl ?_
  rw [f.out]
  exact ⟨rfl, HB2.grown hG9'.out HB2.size (fun k e => by injection e with e; omega)⟩
 | true =>
  cases h2 : nm v with
  | false =>
   have f := Lib.hid (f2 h1 h2)
   clear f1 f2 f3
   go_enter Tryz.func123, Tryz.ntmps123
   go_wp2_with (first | (go_at_call 124; refine (hC.out _).mono ?_; rintro e w1 ⟨rfl, hb1⟩; have hG1 := blk_below (blk_new w _) hb1; have HB1 := below_then (below_alloc (Below.refl w.heap.size w) _) (by simp) hb1; have hg1 : w.heap.size < w1.heap.size := blk_lt hG1) | (go_at_call 137; refine (hS.out _).mono ?_; rintro e w1a ⟨rfl, rfl⟩) | (go_at_call 138; refine (hP.out _).mono ?_; rintro e w1b ⟨rfl, rfl⟩))
   refine (name_any _ _).mono ?_; rintro e w2 ⟨rfl, hb2⟩
   have hw1 := hg1
   have hG2 := blk_below (show _ = _ from (blk_alloc hG1 _)) hb2
   have hO2 := blk_below (show _ = _ from (blk_new _ (.cells #[.int .i64 4, .string bare, .string v] 153))) hb2
   have HB2 : Below w.heap.size w w2 := below_then (below_alloc HB1 _) (by simp; omega) hb2
   clear hb2
   have g0 := (blk_cell hG2 0).trans rfl
   have g1 := (blk_cell hG2 1).trans rfl
   have g2 := (blk_cell hG2 2).trans rfl
   have o0 := (blk_cell hO2 0).trans rfl
   have o1 := (blk_cell hO2 1).trans rfl
   have o2 := (blk_cell hO2 2).trans rfl
   have f0 := blk_frozen hG2 0
   have f1 := blk_frozen hG2 1
   have f2 := blk_frozen hG2 2
   rw [h1]
   go_wp2_with fail
   refine (name_any _ _).mono ?_; rintro e w3 ⟨rfl, hb3⟩
   have hG3 := blk_below hG2 hb3
   have hO3 := blk_below hO2 hb3
   have HB3 := below_then HB2 HB2.size hb3
   clear g0 g1 g2 o0 o1 o2 f0 f1 f2
   have g0 := (blk_cell hG3 0).trans rfl
   have g1 := (blk_cell hG3 1).trans rfl
   have g2 := (blk_cell hG3 2).trans rfl
   have o0 := (blk_cell hO3 0).trans rfl
   have o1 := (blk_cell hO3 1).trans rfl
   have o2 := (blk_cell hO3 2).trans rfl
   have f0 := blk_frozen hG3 0
   have f1 := blk_frozen hG3 1
   have f2 := blk_frozen hG3 2
   rw [h2]
   obtain ⟨hG9, hG9'⟩ := put3 (.int .i64 0) (.string ⟨#[]⟩) (.string ⟨#[]⟩) hG3
   replace hG9 := Lib.hid hG9
   replace hG9' := Lib.hid hG9'
   go_wp2_with fail
   refine bodyPost_ret (results_cell_row rfl _ _ w.heap.size 153 _ (0, 0) _ rfl hG9.out Tryz.underlying153 rfl (by kernel_rfl)) rfl ?_
   rw [f.out]
   exact ⟨rfl, HB3.grown hG9'.out HB3.size (fun k e => by injection e with e; omega)⟩
  | true =>
   have f := Lib.hid (f3 h1 h2)
   clear f1 f2 f3
   go_enter Tryz.func123, Tryz.ntmps123
   go_wp2_with (first | (go_at_call 124; refine (hC.out _).mono ?_; rintro e w1 ⟨rfl, hb1⟩; have hG1 := blk_below (blk_new w _) hb1; have HB1 := below_then (below_alloc (Below.refl w.heap.size w) _) (by simp) hb1; have hg1 : w.heap.size < w1.heap.size := blk_lt hG1) | (go_at_call 137; refine (hS.out _).mono ?_; rintro e w1a ⟨rfl, rfl⟩) | (go_at_call 138; refine (hP.out _).mono ?_; rintro e w1b ⟨rfl, rfl⟩))
   refine (name_any _ _).mono ?_; rintro e w2 ⟨rfl, hb2⟩
   have hw1 := hg1
   have hG2 := blk_below (show _ = _ from (blk_alloc hG1 _)) hb2
   have hO2 := blk_below (show _ = _ from (blk_new _ (.cells #[.int .i64 4, .string bare, .string v] 153))) hb2
   have HB2 : Below w.heap.size w w2 := below_then (below_alloc HB1 _) (by simp; omega) hb2
   clear hb2
   have g0 := (blk_cell hG2 0).trans rfl
   have g1 := (blk_cell hG2 1).trans rfl
   have g2 := (blk_cell hG2 2).trans rfl
   have o0 := (blk_cell hO2 0).trans rfl
   have o1 := (blk_cell hO2 1).trans rfl
   have o2 := (blk_cell hO2 2).trans rfl
   have f0 := blk_frozen hG2 0
   have f1 := blk_frozen hG2 1
   have f2 := blk_frozen hG2 2
   rw [h1]
   go_wp2_with fail
   refine (name_any _ _).mono ?_; rintro e w3 ⟨rfl, hb3⟩
   have hG3 := blk_below hG2 hb3
   have hO3 := blk_below hO2 hb3
   have HB3 := below_then HB2 HB2.size hb3
   clear g0 g1 g2 o0 o1 o2 f0 f1 f2
   have g0 := (blk_cell hG3 0).trans rfl
   have g1 := (blk_cell hG3 1).trans rfl
   have g2 := (blk_cell hG3 2).trans rfl
   have o0 := (blk_cell hO3 0).trans rfl
   have o1 := (blk_cell hO3 1).trans rfl
   have o2 := (blk_cell hO3 2).trans rfl
   have f0 := blk_frozen hG3 0
   have f1 := blk_frozen hG3 1
   have f2 := blk_frozen hG3 2
   rw [h2]
   obtain ⟨hG9, hG9'⟩ := put3 (.int .i64 4) (.string bare) (.string v) hG3
   replace hG9 := Lib.hid hG9
   replace hG9' := Lib.hid hG9'
   go_wp2_with fail
   refine bodyPost_ret (results_cell_row rfl _ _ w.heap.size 153 _ (0, 0) _ rfl hG9.out Tryz.underlying153 rfl (by kernel_rfl)) rfl ?_
   rw [f.out]
   exact ⟨rfl, HB3.grown hG9'.out HB3.size (fun k e => by injection e with e; omega)⟩
set_option maxHeartbeats 4000000 in
theorem read_3 (s k v bare : ByteArray) (nt pre : Bool) (w : World) (r : Int × ByteArray × ByteArray) (hk : k.size < 4294967281)
 (hC : Aside0 (∀ w, Calls Tryz.prog 124 #[.string s, .string equals] w fun e w' => e = .returned (.tuple #[.string k, .string v, .bool true]) ∧ Below w.heap.size w w'))
 (hS : Aside0 (∀ w, Calls Tryz.prog 137 #[.string k, .string ⟨#[33]⟩] w fun e w' => e = .returned (.tuple #[.string bare, .bool false]) ∧ w' = w))
 (hP : Aside0 (∀ w, Calls Tryz.prog 138 #[.string k, .string ⟨#[33]⟩] w fun e w' => e = .returned (.bool pre) ∧ w' = w))
 (f1 : nm k = false → r = (0, ByteArray.empty, ByteArray.empty)) (f2 : nm k = true → nm v = false → r = (0, ByteArray.empty, ByteArray.empty)) (f3 : nm k = true → nm v = true → r = (3, k, v)) :
 Calls Tryz.prog 123 #[.string s] w (RePost w r) := by
 cases h1 : nm k with
 | false =>
  have f := Lib.hid (f1 h1)
  clear f1 f2 f3
  go_enter Tryz.func123, Tryz.ntmps123
  go_wp2_with (first | (go_at_call 124; refine (hC.out _).mono ?_; rintro e w1 ⟨rfl, hb1⟩; have hG1 := blk_below (blk_new w _) hb1; have HB1 := below_then (below_alloc (Below.refl w.heap.size w) _) (by simp) hb1; have hg1 : w.heap.size < w1.heap.size := blk_lt hG1) | (go_at_call 137; refine (hS.out _).mono ?_; rintro e w1a ⟨rfl, rfl⟩) | (go_at_call 138; refine (hP.out _).mono ?_; rintro e w1b ⟨rfl, rfl⟩))
  refine (name_any _ _).mono ?_; rintro e w2 ⟨rfl, hb2⟩
  have hw1 := hg1
  have hG2 := blk_below (show _ = _ from (blk_alloc hG1 _)) hb2
  have hO2 := blk_below (show _ = _ from (blk_new _ (.cells #[.int .i64 3, .string k, .string v] 153))) hb2
  have HB2 : Below w.heap.size w w2 := below_then (below_alloc HB1 _) (by simp; omega) hb2
  clear hb2
  have g0 := (blk_cell hG2 0).trans rfl
  have g1 := (blk_cell hG2 1).trans rfl
  have g2 := (blk_cell hG2 2).trans rfl
  have o0 := (blk_cell hO2 0).trans rfl
  have o1 := (blk_cell hO2 1).trans rfl
  have o2 := (blk_cell hO2 2).trans rfl
  have f0 := blk_frozen hG2 0
  have f1 := blk_frozen hG2 1
  have f2 := blk_frozen hG2 2
  rw [h1]
  obtain ⟨hG9, hG9'⟩ := put3 (.int .i64 0) (.string ⟨#[]⟩) (.string ⟨#[]⟩) hG2
  replace hG9 := Lib.hid hG9
  replace hG9' := Lib.hid hG9'
  go_wp2_with fail
  refine bodyPost_ret (results_cell_row rfl _ _ w.heap.size 153 _ (0, 0) _ rfl hG9.out Tryz.underlying153 rfl (by kernel_rfl)) rfl ?_
  rw [f.out]
  exact ⟨rfl, HB2.grown hG9'.out HB2.size (fun k e => by injection e with e; omega)⟩
 | true =>
  cases h2 : nm v with
  | false =>
   have f := Lib.hid (f2 h1 h2)
   clear f1 f2 f3
   go_enter Tryz.func123, Tryz.ntmps123
   go_wp2_with (first | (go_at_call 124; refine (hC.out _).mono ?_; rintro e w1 ⟨rfl, hb1⟩; have hG1 := blk_below (blk_new w _) hb1; have HB1 := below_then (below_alloc (Below.refl w.heap.size w) _) (by simp) hb1; have hg1 : w.heap.size < w1.heap.size := blk_lt hG1) | (go_at_call 137; refine (hS.out _).mono ?_; rintro e w1a ⟨rfl, rfl⟩) | (go_at_call 138; refine (hP.out _).mono ?_; rintro e w1b ⟨rfl, rfl⟩))
   refine (name_any _ _).mono ?_; rintro e w2 ⟨rfl, hb2⟩
   have hw1 := hg1
   have hG2 := blk_below (show _ = _ from (blk_alloc hG1 _)) hb2
   have hO2 := blk_below (show _ = _ from (blk_new _ (.cells #[.int .i64 3, .string k, .string v] 153))) hb2
   have HB2 : Below w.heap.size w w2 := below_then (below_alloc HB1 _) (by simp; omega) hb2
   clear hb2
   have g0 := (blk_cell hG2 0).trans rfl
   have g1 := (blk_cell hG2 1).trans rfl
   have g2 := (blk_cell hG2 2).trans rfl
   have o0 := (blk_cell hO2 0).trans rfl
   have o1 := (blk_cell hO2 1).trans rfl
   have o2 := (blk_cell hO2 2).trans rfl
   have f0 := blk_frozen hG2 0
   have f1 := blk_frozen hG2 1
   have f2 := blk_frozen hG2 2
   rw [h1]
   go_wp2_with fail
   refine (name_any _ _).mono ?_; rintro e w3 ⟨rfl, hb3⟩
   have hG3 := blk_below hG2 hb3
   have hO3 := blk_below hO2 hb3
   have HB3 := below_then HB2 HB2.size hb3
   clear g0 g1 g2 o0 o1 o2 f0 f1 f2
   have g0 := (blk_cell hG3 0).trans rfl
   have g1 := (blk_cell hG3 1).trans rfl
   have g2 := (blk_cell hG3 2).trans rfl
   have o0 := (blk_cell hO3 0).trans rfl
   have o1 := (blk_cell hO3 1).trans rfl
   have o2 := (blk_cell hO3 2).trans rfl
   have f0 := blk_frozen hG3 0
   have f1 := blk_frozen hG3 1
   have f2 := blk_frozen hG3 2
   rw [h2]
   obtain ⟨hG9, hG9'⟩ := put3 (.int .i64 0) (.string ⟨#[]⟩) (.string ⟨#[]⟩) hG3
   replace hG9 := Lib.hid hG9
   replace hG9' := Lib.hid hG9'
   go_wp2_with fail
   refine bodyPost_ret (results_cell_row rfl _ _ w.heap.size 153 _ (0, 0) _ rfl hG9.out Tryz.underlying153 rfl (by kernel_rfl)) rfl ?_
   rw [f.out]
   exact ⟨rfl, HB3.grown hG9'.out HB3.size (fun k e => by injection e with e; omega)⟩
  | true =>
   have f := Lib.hid (f3 h1 h2)
   clear f1 f2 f3
   go_enter Tryz.func123, Tryz.ntmps123
   go_wp2_with (first | (go_at_call 124; refine (hC.out _).mono ?_; rintro e w1 ⟨rfl, hb1⟩; have hG1 := blk_below (blk_new w _) hb1; have HB1 := below_then (below_alloc (Below.refl w.heap.size w) _) (by simp) hb1; have hg1 : w.heap.size < w1.heap.size := blk_lt hG1) | (go_at_call 137; refine (hS.out _).mono ?_; rintro e w1a ⟨rfl, rfl⟩) | (go_at_call 138; refine (hP.out _).mono ?_; rintro e w1b ⟨rfl, rfl⟩))
   refine (name_any _ _).mono ?_; rintro e w2 ⟨rfl, hb2⟩
   have hw1 := hg1
   have hG2 := blk_below (show _ = _ from (blk_alloc hG1 _)) hb2
   have hO2 := blk_below (show _ = _ from (blk_new _ (.cells #[.int .i64 3, .string k, .string v] 153))) hb2
   have HB2 : Below w.heap.size w w2 := below_then (below_alloc HB1 _) (by simp; omega) hb2
   clear hb2
   have g0 := (blk_cell hG2 0).trans rfl
   have g1 := (blk_cell hG2 1).trans rfl
   have g2 := (blk_cell hG2 2).trans rfl
   have o0 := (blk_cell hO2 0).trans rfl
   have o1 := (blk_cell hO2 1).trans rfl
   have o2 := (blk_cell hO2 2).trans rfl
   have f0 := blk_frozen hG2 0
   have f1 := blk_frozen hG2 1
   have f2 := blk_frozen hG2 2
   rw [h1]
   go_wp2_with fail
   refine (name_any _ _).mono ?_; rintro e w3 ⟨rfl, hb3⟩
   have hG3 := blk_below hG2 hb3
   have hO3 := blk_below hO2 hb3
   have HB3 := below_then HB2 HB2.size hb3
   clear g0 g1 g2 o0 o1 o2 f0 f1 f2
   have g0 := (blk_cell hG3 0).trans rfl
   have g1 := (blk_cell hG3 1).trans rfl
   have g2 := (blk_cell hG3 2).trans rfl
   have o0 := (blk_cell hO3 0).trans rfl
   have o1 := (blk_cell hO3 1).trans rfl
   have o2 := (blk_cell hO3 2).trans rfl
   have f0 := blk_frozen hG3 0
   have f1 := blk_frozen hG3 1
   have f2 := blk_frozen hG3 2
   rw [h2]
   obtain ⟨hG9, hG9'⟩ := put3 (.int .i64 3) (.string k) (.string v) hG3
   replace hG9 := Lib.hid hG9
   replace hG9' := Lib.hid hG9'
   go_wp2_with fail
   refine bodyPost_ret (results_cell_row rfl _ _ w.heap.size 153 _ (0, 0) _ rfl hG9.out Tryz.underlying153 rfl (by kernel_rfl)) rfl ?_
   rw [f.out]
   exact ⟨rfl, HB3.grown hG9'.out HB3.size (fun k e => by injection e with e; omega)⟩
set_option maxHeartbeats 4000000 in
theorem read_2 (s k v bare : ByteArray) (nt pre : Bool) (w : World) (r : Int × ByteArray × ByteArray) (hk : k.size < 4294967281) (hp : 1 ≤ k.size)
 (hC : Aside0 (∀ w, Calls Tryz.prog 124 #[.string s, .string equals] w fun e w' => e = .returned (.tuple #[.string k, .string v, .bool false]) ∧ Below w.heap.size w w'))
 (hS : Aside0 (∀ w, Calls Tryz.prog 137 #[.string k, .string ⟨#[33]⟩] w fun e w' => e = .returned (.tuple #[.string bare, .bool nt]) ∧ w' = w))
 (hP : Aside0 (∀ w, Calls Tryz.prog 138 #[.string k, .string ⟨#[33]⟩] w fun e w' => e = .returned (.bool true) ∧ w' = w))
 (f1 : nm (k.extract 1 k.size) = false → r = (0, ByteArray.empty, ByteArray.empty)) (f2 : nm (k.extract 1 k.size) = true → nm anyB = false → r = (0, ByteArray.empty, ByteArray.empty)) (f3 : nm (k.extract 1 k.size) = true → nm anyB = true → r = (2, (k.extract 1 k.size), anyB)) :
 Calls Tryz.prog 123 #[.string s] w (RePost w r) := by
 have p1 : (1 : Int) ≤ (k.size : Int) := by omega
 have hany : nm anyB = true := by decide +kernel
 cases h1 : nm (k.extract 1 k.size) with
 | false =>
  have f := Lib.hid (f1 h1)
  clear f1 f2 f3
  go_enter Tryz.func123, Tryz.ntmps123
  go_wp2_with (first | (go_at_call 124; refine (hC.out _).mono ?_; rintro e w1 ⟨rfl, hb1⟩; have hG1 := blk_below (blk_new w _) hb1; have HB1 := below_then (below_alloc (Below.refl w.heap.size w) _) (by simp) hb1; have hg1 : w.heap.size < w1.heap.size := blk_lt hG1) | (go_at_call 137; refine (hS.out _).mono ?_; rintro e w1a ⟨rfl, rfl⟩) | (go_at_call 138; refine (hP.out _).mono ?_; rintro e w1b ⟨rfl, rfl⟩))
  go_region
  go_wp2_with fail
  refine (name_any _ _).mono ?_; rintro e w2 ⟨rfl, hb2⟩
  have hw1 := hg1
  have hG2 := blk_below (show _ = _ from (blk_drew (blk_alloc hG1 _))) hb2
  have hO2 := blk_below (show _ = _ from (blk_drew (blk_new _ (.cells #[.int .i64 2, .string (k.extract 1 k.size), .string anyB] 153)))) hb2
  have HB2 : Below w.heap.size w w2 := below_then (below_drew (below_alloc HB1 _)) (by simp; omega) hb2
  clear hb2
  have g0 := (blk_cell hG2 0).trans rfl
  have g1 := (blk_cell hG2 1).trans rfl
  have g2 := (blk_cell hG2 2).trans rfl
  have o0 := (blk_cell hO2 0).trans rfl
  have o1 := (blk_cell hO2 1).trans rfl
  have o2 := (blk_cell hO2 2).trans rfl
  have f0 := blk_frozen hG2 0
  have f1 := blk_frozen hG2 1
  have f2 := blk_frozen hG2 2
  rw [h1]
  obtain ⟨hG9, hG9'⟩ := put3 (.int .i64 0) (.string ⟨#[]⟩) (.string ⟨#[]⟩) hG2
  replace hG9 := Lib.hid hG9
  replace hG9' := Lib.hid hG9'
  go_wp2_with fail
  refine bodyPost_ret (results_cell_row rfl _ _ w.heap.size 153 _ (0, 0) _ rfl hG9.out Tryz.underlying153 rfl (by kernel_rfl)) rfl ?_
  rw [f.out]
  exact ⟨rfl, HB2.grown hG9'.out HB2.size (fun k e => by injection e with e; omega)⟩
 | true =>
  have f := Lib.hid (f3 h1 hany)
  clear f1 f2 f3
  go_enter Tryz.func123, Tryz.ntmps123
  go_wp2_with (first | (go_at_call 124; refine (hC.out _).mono ?_; rintro e w1 ⟨rfl, hb1⟩; have hG1 := blk_below (blk_new w _) hb1; have HB1 := below_then (below_alloc (Below.refl w.heap.size w) _) (by simp) hb1; have hg1 : w.heap.size < w1.heap.size := blk_lt hG1) | (go_at_call 137; refine (hS.out _).mono ?_; rintro e w1a ⟨rfl, rfl⟩) | (go_at_call 138; refine (hP.out _).mono ?_; rintro e w1b ⟨rfl, rfl⟩))
  go_region
  go_wp2_with fail
  refine (name_any _ _).mono ?_; rintro e w2 ⟨rfl, hb2⟩
  have hw1 := hg1
  have hG2 := blk_below (show _ = _ from (blk_drew (blk_alloc hG1 _))) hb2
  have hO2 := blk_below (show _ = _ from (blk_drew (blk_new _ (.cells #[.int .i64 2, .string (k.extract 1 k.size), .string anyB] 153)))) hb2
  have HB2 : Below w.heap.size w w2 := below_then (below_drew (below_alloc HB1 _)) (by simp; omega) hb2
  clear hb2
  have g0 := (blk_cell hG2 0).trans rfl
  have g1 := (blk_cell hG2 1).trans rfl
  have g2 := (blk_cell hG2 2).trans rfl
  have o0 := (blk_cell hO2 0).trans rfl
  have o1 := (blk_cell hO2 1).trans rfl
  have o2 := (blk_cell hO2 2).trans rfl
  have f0 := blk_frozen hG2 0
  have f1 := blk_frozen hG2 1
  have f2 := blk_frozen hG2 2
  rw [h1]
  go_wp2_with fail
  refine (name_any _ _).mono ?_; rintro e w3 ⟨rfl, hb3⟩
  have hG3 := blk_below hG2 hb3
  have hO3 := blk_below hO2 hb3
  have HB3 := below_then HB2 HB2.size hb3
  clear g0 g1 g2 o0 o1 o2 f0 f1 f2
  have g0 := (blk_cell hG3 0).trans rfl
  have g1 := (blk_cell hG3 1).trans rfl
  have g2 := (blk_cell hG3 2).trans rfl
  have o0 := (blk_cell hO3 0).trans rfl
  have o1 := (blk_cell hO3 1).trans rfl
  have o2 := (blk_cell hO3 2).trans rfl
  have f0 := blk_frozen hG3 0
  have f1 := blk_frozen hG3 1
  have f2 := blk_frozen hG3 2
  rw [hany]
  obtain ⟨hG9, hG9'⟩ := put3 (.int .i64 2) (.string (k.extract 1 k.size)) (.string anyB) hG3
  replace hG9 := Lib.hid hG9
  replace hG9' := Lib.hid hG9'
  go_wp2_with fail
  refine bodyPost_ret (results_cell_row rfl _ _ w.heap.size 153 _ (0, 0) _ rfl hG9.out Tryz.underlying153 rfl (by kernel_rfl)) rfl ?_
  rw [f.out]
  exact ⟨rfl, HB3.grown hG9'.out HB3.size (fun k e => by injection e with e; omega)⟩
set_option maxHeartbeats 4000000 in
theorem read_1 (s k v bare : ByteArray) (nt pre : Bool) (w : World) (r : Int × ByteArray × ByteArray) (hk : k.size < 4294967281)
 (hC : Aside0 (∀ w, Calls Tryz.prog 124 #[.string s, .string equals] w fun e w' => e = .returned (.tuple #[.string k, .string v, .bool false]) ∧ Below w.heap.size w w'))
 (hS : Aside0 (∀ w, Calls Tryz.prog 137 #[.string k, .string ⟨#[33]⟩] w fun e w' => e = .returned (.tuple #[.string bare, .bool nt]) ∧ w' = w))
 (hP : Aside0 (∀ w, Calls Tryz.prog 138 #[.string k, .string ⟨#[33]⟩] w fun e w' => e = .returned (.bool false) ∧ w' = w))
 (f1 : nm k = false → r = (0, ByteArray.empty, ByteArray.empty)) (f2 : nm k = true → nm anyB = false → r = (0, ByteArray.empty, ByteArray.empty)) (f3 : nm k = true → nm anyB = true → r = (1, k, anyB)) :
 Calls Tryz.prog 123 #[.string s] w (RePost w r) := by
 have hany : nm anyB = true := by decide +kernel
 cases h1 : nm k with
 | false =>
  have f := Lib.hid (f1 h1)
  clear f1 f2 f3
  go_enter Tryz.func123, Tryz.ntmps123
  go_wp2_with (first | (go_at_call 124; refine (hC.out _).mono ?_; rintro e w1 ⟨rfl, hb1⟩; have hG1 := blk_below (blk_new w _) hb1; have HB1 := below_then (below_alloc (Below.refl w.heap.size w) _) (by simp) hb1; have hg1 : w.heap.size < w1.heap.size := blk_lt hG1) | (go_at_call 137; refine (hS.out _).mono ?_; rintro e w1a ⟨rfl, rfl⟩) | (go_at_call 138; refine (hP.out _).mono ?_; rintro e w1b ⟨rfl, rfl⟩))
  refine (name_any _ _).mono ?_; rintro e w2 ⟨rfl, hb2⟩
  have hw1 := hg1
  have hG2 := blk_below (show _ = _ from (blk_alloc hG1 _)) hb2
  have hO2 := blk_below (show _ = _ from (blk_new _ (.cells #[.int .i64 1, .string k, .string anyB] 153))) hb2
  have HB2 : Below w.heap.size w w2 := below_then (below_alloc HB1 _) (by simp; omega) hb2
  clear hb2
  have g0 := (blk_cell hG2 0).trans rfl
  have g1 := (blk_cell hG2 1).trans rfl
  have g2 := (blk_cell hG2 2).trans rfl
  have o0 := (blk_cell hO2 0).trans rfl
  have o1 := (blk_cell hO2 1).trans rfl
  have o2 := (blk_cell hO2 2).trans rfl
  have f0 := blk_frozen hG2 0
  have f1 := blk_frozen hG2 1
  have f2 := blk_frozen hG2 2
  rw [h1]
  obtain ⟨hG9, hG9'⟩ := put3 (.int .i64 0) (.string ⟨#[]⟩) (.string ⟨#[]⟩) hG2
  replace hG9 := Lib.hid hG9
  replace hG9' := Lib.hid hG9'
  go_wp2_with fail
  refine bodyPost_ret (results_cell_row rfl _ _ w.heap.size 153 _ (0, 0) _ rfl hG9.out Tryz.underlying153 rfl (by kernel_rfl)) rfl ?_
  rw [f.out]
  exact ⟨rfl, HB2.grown hG9'.out HB2.size (fun k e => by injection e with e; omega)⟩
 | true =>
  have f := Lib.hid (f3 h1 hany)
  clear f1 f2 f3
  go_enter Tryz.func123, Tryz.ntmps123
  go_wp2_with (first | (go_at_call 124; refine (hC.out _).mono ?_; rintro e w1 ⟨rfl, hb1⟩; have hG1 := blk_below (blk_new w _) hb1; have HB1 := below_then (below_alloc (Below.refl w.heap.size w) _) (by simp) hb1; have hg1 : w.heap.size < w1.heap.size := blk_lt hG1) | (go_at_call 137; refine (hS.out _).mono ?_; rintro e w1a ⟨rfl, rfl⟩) | (go_at_call 138; refine (hP.out _).mono ?_; rintro e w1b ⟨rfl, rfl⟩))
  refine (name_any _ _).mono ?_; rintro e w2 ⟨rfl, hb2⟩
  have hw1 := hg1
  have hG2 := blk_below (show _ = _ from (blk_alloc hG1 _)) hb2
  have hO2 := blk_below (show _ = _ from (blk_new _ (.cells #[.int .i64 1, .string k, .string anyB] 153))) hb2
  have HB2 : Below w.heap.size w w2 := below_then (below_alloc HB1 _) (by simp; omega) hb2
  clear hb2
  have g0 := (blk_cell hG2 0).trans rfl
  have g1 := (blk_cell hG2 1).trans rfl
  have g2 := (blk_cell hG2 2).trans rfl
  have o0 := (blk_cell hO2 0).trans rfl
  have o1 := (blk_cell hO2 1).trans rfl
  have o2 := (blk_cell hO2 2).trans rfl
  have f0 := blk_frozen hG2 0
  have f1 := blk_frozen hG2 1
  have f2 := blk_frozen hG2 2
  rw [h1]
  go_wp2_with fail
  refine (name_any _ _).mono ?_; rintro e w3 ⟨rfl, hb3⟩
  have hG3 := blk_below hG2 hb3
  have hO3 := blk_below hO2 hb3
  have HB3 := below_then HB2 HB2.size hb3
  clear g0 g1 g2 o0 o1 o2 f0 f1 f2
  have g0 := (blk_cell hG3 0).trans rfl
  have g1 := (blk_cell hG3 1).trans rfl
  have g2 := (blk_cell hG3 2).trans rfl
  have o0 := (blk_cell hO3 0).trans rfl
  have o1 := (blk_cell hO3 1).trans rfl
  have o2 := (blk_cell hO3 2).trans rfl
  have f0 := blk_frozen hG3 0
  have f1 := blk_frozen hG3 1
  have f2 := blk_frozen hG3 2
  rw [hany]
  obtain ⟨hG9, hG9'⟩ := put3 (.int .i64 1) (.string k) (.string anyB) hG3
  replace hG9 := Lib.hid hG9
  replace hG9' := Lib.hid hG9'
  go_wp2_with fail
  refine bodyPost_ret (results_cell_row rfl _ _ w.heap.size 153 _ (0, 0) _ rfl hG9.out Tryz.underlying153 rfl (by kernel_rfl)) rfl ?_
  rw [f.out]
  exact ⟨rfl, HB3.grown hG9'.out HB3.size (fun k e => by injection e with e; omega)⟩
theorem read_any (s : ByteArray) (w : World) (hs : s.size < 4294967281) :
 Calls Tryz.prog 123 #[.string s] w (RePost w (readS s)) := by
 have hC := fun w => cut_any s w (by omega)
 have hks := cut_size s
 have hS := fun w => Sh.Tryz.strings_CutSuffix (cutS s).1 ⟨#[33]⟩ w (by omega)
 have hP := fun w => Sh.Tryz.strings_HasPrefix (cutS s).1 ⟨#[33]⟩ w
 obtain ⟨r, hr⟩ : ∃ r, r = readS s := ⟨_, rfl⟩
 rw [← hr]
 unfold readS rawS at hr
 rw [show (⟨(Lib.trimSuffix (cutS s).1.data.toList (⟨#[33]⟩ : ByteArray).data.toList).toArray⟩ : ByteArray) = trimS (cutS s).1 from rfl, show Lib.hasSuffix (cutS s).1.data.toList (⟨#[33]⟩ : ByteArray).data.toList = sufS (cutS s).1 from rfl] at hS
 rw [show Lib.hasPrefix (cutS s).1.data.toList (⟨#[33]⟩ : ByteArray).data.toList = preS (cutS s).1 from rfl] at hP
 have hp1 := fun h => pre_pos (k := (cutS s).1) h
 generalize cutS s = c at *
 obtain ⟨k, v, asks⟩ := c
 simp only at hC hS hP hr hp1 hks
 generalize trimS k = bare at *
 generalize sufS k = nt at *
 generalize preS k = pre at *
 have fin : ∀ (kd : Int) (key val : ByteArray), (kd, key, val) = (if asks = true then if nt = true then (4, bare, v) else (3, k, v) else if pre = true then (2, k.extract 1 k.size, anyB) else (1, k, anyB)) →
  (nm key = false → r = (0, ByteArray.empty, ByteArray.empty)) ∧ (nm key = true → nm val = false → r = (0, ByteArray.empty, ByteArray.empty)) ∧ (nm key = true → nm val = true → r = (kd, key, val)) := by
  intro kd key val he
  rw [← he] at hr
  refine ⟨fun h => ?_, fun h1 h2 => ?_, fun h1 h2 => ?_⟩
  ·rw [hr, if_neg (by rw [h]; simp)]
  ·rw [hr, if_neg (by rw [h2]; simp)]
  ·rw [hr, if_pos ⟨h1, h2⟩]
 cases asks with
 | true =>
  cases nt with
  | true => obtain ⟨f1, f2, f3⟩ := fin 4 bare v rfl; exact read_4 s k v bare true pre w r (by omega) ⟨hC⟩ ⟨hS⟩ ⟨hP⟩ f1 f2 f3
  | false => obtain ⟨f1, f2, f3⟩ := fin 3 k v rfl; exact read_3 s k v bare false pre w r (by omega) ⟨hC⟩ ⟨hS⟩ ⟨hP⟩ f1 f2 f3
 | false =>
  cases pre with
  | true => obtain ⟨f1, f2, f3⟩ := fin 2 (k.extract 1 k.size) anyB rfl; exact read_2 s k v bare nt true w r (by omega) (hp1 rfl) ⟨hC⟩ ⟨hS⟩ ⟨hP⟩ f1 f2 f3
  | false => obtain ⟨f1, f2, f3⟩ := fin 1 k anyB rfl; exact read_1 s k v bare nt false w r (by omega) ⟨hC⟩ ⟨hS⟩ ⟨hP⟩ f1 f2 f3
/-- is a text no term? -/
def noTerm (p : ByteArray) : Bool := decide ((readS p).1 = 0)
set_option maxRecDepth 100000 in
theorem sel1_any (p : ByteArray) (w : World) (hp : p.size < 4294967281) :
 Calls Tryz.prog 122 #[.string p] w fun e w' => e = .returned (.bool (noTerm p)) ∧ Below w.heap.size w w' := by
 have hR := read_any p w hp
 unfold noTerm
 generalize readS p = r at *
 obtain ⟨a, b, c⟩ := r
 have hf : ∀ w : World, (Instr.field 153 (.agg #[.int .i64 a, .string b, .string c]) 0).run Tryz.prog w = .ok (.int .i64 a) w := fun _ => by kernel_rfl
 go_enter Tryz.func122, Tryz.ntmps122
 go_wp2_with fail
 refine hR.mono ?_; rintro e w1 ⟨rfl, hb⟩
 go_wp2_with fail
 go_ret
 exact ⟨by first | rfl | (congr 2; simp), hb⟩
set_option maxHeartbeats 4000000 in
theorem index_any (A : Option Addr) (c : Nat) (l : List ByteArray) (w : World) (hC : Kd.string.C w A l.length l) (hp : ∀ p ∈ l, p.size < 4294967281) (hl : l.length ≤ 4294967281) :
 Calls Tryz.prog 136 #[.slice A l.length c, .func (.func 122) #[] #[]] w fun e w' => (∃ i : Int, e = .returned (.int .i64 i) ∧ decide (0 ≤ i) = l.any noTerm) ∧ Below w.heap.size w w' := by
 have HC := Aside0.mk hC
 have HP := Aside0.mk hp
 clear hC hp
 go_enter Tryz.func136, Tryz.ntmps136
 go_wp2
 go_loopg [8] l.length (fun kx s8 wr => ∃ i : Nat, s8 = .int .i64 i ∧ i ≤ l.length ∧ l.length - i ≤ kx ∧ Aside0 (Below w.heap.size w wr) ∧ Aside0 ((l.take i).any noTerm = false))
 case atStart => exact ⟨0, rfl, Nat.zero_le _, Nat.le_refl _, ⟨Below.refl _ _⟩, ⟨rfl⟩⟩
 case round =>
  obtain ⟨i, rfl, hi, hg, S1, I⟩ := hrel
  by_cases hlt : i < l.length
  ·obtain ⟨ad, rfl, c0⟩ := (Kd.reads_of_C (d := ByteArray.empty) (Kd.C_below HC.out S1.out)).2.2 (by omega)
   have c1 := c0 i hlt
   have Y : l[i]? = some (l.getD i ByteArray.empty) := by rw [List.getD_eq_getElem?_getD, List.getElem?_eq_getElem hlt]; rfl
   have hm : l.getD i ByteArray.empty ∈ l := List.mem_of_getElem? Y
   have hsz := HP.out _ hm
   have ht : (l.take (i + 1)).any noTerm = noTerm (l.getD i ByteArray.empty) := by
    rw [List.take_add_one, Y, List.any_append, I.out]; simp
   have hany : noTerm (l.getD i ByteArray.empty) = true → l.any noTerm = true := fun h => List.any_eq_true.2 ⟨_, hm, h⟩
   clear c0 Y hm
   generalize l.getD i ByteArray.empty = p at *
   have hcl := fun W => sel1_any p W hsz
   cases hb : noTerm p with
   | true =>
    rw [hb] at hcl
    have hr := hany hb
    have hcl' := Aside0.mk hcl
    have hr' := Aside0.mk hr
    clear hany ht hb hcl hr
    go_wp2_with (go_at_call 122; refine (hcl'.out _).mono ?_; rintro e w2 ⟨rfl, hb2⟩)
    go_ret
    exact ⟨⟨_, rfl, by rw [hr'.out]; exact decide_eq_true (by omega)⟩, below_then S1.out S1.out.size hb2⟩
   | false =>
    rw [hb] at hcl ht
    have hcl' := Aside0.mk hcl
    have ht' := Aside0.mk ht
    clear hany ht hb hcl
    go_wp2_with (go_at_call 122; refine (hcl'.out _).mono ?_; rintro e w2 ⟨rfl, hb2⟩)
    go_roundg (l.length - (i + 1))
    case measure => omega
    case rel => exact ⟨i + 1, by go_num, by omega, Nat.le_refl _, ⟨below_then S1.out S1.out.size hb2⟩, ht'⟩
  ·obtain rfl : i = l.length := by omega
   have hr := I.out
   rw [List.take_length] at hr
   have hr' := Aside0.mk hr
   clear hr
   go_wp2
   go_ret
   exact ⟨⟨_, rfl, by rw [hr'.out]; decide⟩, S1.out⟩
theorem contains_any (A : Option Addr) (c : Nat) (l : List ByteArray) (w : World) (hC : Kd.string.C w A l.length l) (hp : ∀ p ∈ l, p.size < 4294967281) (hl : l.length ≤ 4294967281) :
 Calls Tryz.prog 121 #[.slice A l.length c, .func (.func 122) #[] #[]] w fun e w' => e = .returned (.bool (l.any noTerm)) ∧ Below w.heap.size w w' := by
 have hI := index_any A c l w hC hp hl
 clear hC hp
 go_enter Tryz.func121, Tryz.ntmps121
 go_wp2_with fail
 refine hI.mono ?_; rintro e w1 ⟨⟨i, rfl, hi⟩, hb⟩
 have hi' := Aside0.mk hi
 clear hi hI
 go_wp2_with fail
 go_ret
 exact ⟨by rw [← hi'.out]; rfl, hb⟩
/-- is a text a selector? -/
def selS (s : ByteArray) : Bool := decide ((partsS s).length ≤ 4) && !(partsS s).any noTerm
theorem splitB_size (sep : ByteArray) (save : Nat) : ∀ (k : Nat) (s : ByteArray), ∀ p ∈ Lib.splitB sep save k s, p.size ≤ s.size
 | 0, s, p, h => by
   rw [Lib.splitB_zero] at h
   rw [List.mem_singleton.1 h]; exact Nat.le_refl _
 | k + 1, s, p, h => by
   rcases Lib.indexB_cases s sep with hx | ⟨i, hx, _⟩
   ·rw [Lib.splitB_miss sep save (k + 1) s hx] at h
    rw [List.mem_singleton.1 h]; exact Nat.le_refl _
   ·rw [Lib.splitB_hit sep save k s i hx] at h
    rcases List.mem_cons.1 h with rfl | h
    ·rw [ByteArray.size_extract]; omega
    ·have := splitB_size sep save k _ p h
     rw [ByteArray.size_extract] at this; omega
theorem parts_size {s p : ByteArray} (h : p ∈ partsS s) : p.size ≤ s.size := by
 unfold partsS at h
 split at h
 ·cases h
 ·exact splitB_size _ _ _ _ _ h
theorem parts_len (s : ByteArray) : (partsS s).length ≤ s.size + 1 := by
 unfold partsS
 split
 ·exact Nat.zero_le _
 ·rw [Lib.splitB_all comma (by decide) 0 _ s rfl]
  have := Lib.countB_le comma (by decide) s.size s (Nat.le_refl _)
  omega
theorem sel_any (s : ByteArray) (w : World) (hs : s.size < 4294967281) :
 Calls Tryz.prog 101 #[.string s] w fun e w' => e = .returned (.bool (selS s)) ∧ Below w.heap.size w w' := by
 have hP := parts_any s w hs
 have hps : ∀ p ∈ partsS s, p.size < 4294967281 := fun p hp => by have := parts_size hp; omega
 have hpl := parts_len s
 unfold selS
 generalize partsS s = l at *
 have HPS := Aside0.mk hps
 clear hps
 by_cases h4 : l.length ≤ 4
 ·have d4 : decide ((l.length : Int) ≤ 4) = true := decide_eq_true (by omega)
  rw [decide_eq_true h4]
  go_enter Tryz.func101, Tryz.ntmps101
  go_wp2_with fail
  refine hP.mono ?_; rintro e w1 ⟨v, rfl, hR, hb⟩
  obtain ⟨A, c, rfl⟩ := Kd.R_slice hR
  have HC := Aside0.mk (Kd.R_reads' hR).2.2
  clear hR
  go_wp2_with (go_at_call 121; refine (contains_any A c l _ HC.out HPS.out (by omega)).mono ?_; rintro e w2 ⟨rfl, hb2⟩)
  go_ret
  exact ⟨by simp, below_then hb hb.size hb2⟩
 ·have d4 : decide ((l.length : Int) ≤ 4) = false := decide_eq_false (by omega)
  rw [decide_eq_false h4]
  go_enter Tryz.func101, Tryz.ntmps101
  go_wp2_with fail
  refine hP.mono ?_; rintro e w1 ⟨v, rfl, hR, hb⟩
  obtain ⟨A, c, rfl⟩ := Kd.R_slice hR
  clear hR
  go_wp2_with fail
  go_ret
  exact ⟨by simp, hb⟩
def label_IsSelector.f (a0 : ByteArray) : Option Bool := if a0.size < 4294967281 then some (selS a0) else none
theorem label_IsSelector.calls (a0 : ByteArray) (r : Bool) (w : World) (h : label_IsSelector.f a0 = some r) :
 Calls Tryz.prog 101 #[.string a0] w fun e w' => e = .returned (.bool r) ∧ Below w.heap.size w w' := by
 unfold label_IsSelector.f at h
 split at h
 ·obtain rfl := Option.some.inj h
  exact sel_any a0 w (by assumption)
 ·cases h
end Go.Proofs.YtldlkbjbfgieeaaGreatDoor.Lb
