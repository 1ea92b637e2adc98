-- Written by a program of this session (mp.py, merge.py).
import Derived.Test.YtdgaancbeakfdaaDoorQx0
namespace Go.Proofs.YtdgaancbeakfdaaDoor.Q
open Go.RowKit Go.Proofs.YtdgaancbeakfdaaDoorW.PrintWords Go.Proofs.YtdgaancbeakfdaaDoorW.PrintLast Go.Proofs.YtdgaancbeakfdaaDoor.Mo
attribute [local go_sem] max2_int min2_int max_two min_two max_three min_three max_four min_four   -- for this text's walks alone
open Go.Proofs.YtdgaancbeakfdaaDoor.Giv Go.Proofs.YtdgaancbeakfdaaDoor.Gn
set_option linter.unusedVariables false
set_option linter.unusedSimpArgs false

/-- A state of type 76 at block g of W; what its slices lead to came in by w0. -/
def IsS76 (w0 W : World) (g : Nat) (f0 : ByteArray) (f1 : Int) (f2 : Bool) : Prop := W.heap[g]? = some (.cells #[.string f0, .int .i64 f1, .bool f2] 76 (0, 0)) ∧ w0.heap.size ≤ g
theorem IsS76.grown {w0 W : World} {g : Nat} {f0 : ByteArray} {f1 : Int} {f2 : Bool} {W1 : World} {row : Option Nat} (h : IsS76 w0 W g f0 f1 f2) (hw : W.grownBy W1 row) (hne : some g ≠ row) : IsS76 w0 W1 g f0 f1 f2 := by
  obtain ⟨hb, hg⟩ := h
  exact ⟨blk_grown hb hw hne, hg⟩
theorem IsS76.fresh {w0 W : World} {g : Nat} {f0 : ByteArray} {f1 : Int} {f2 : Bool} (h : IsS76 w0 W g f0 f1 f2) : ∀ k, W.heap.size ≤ k → k ≠ g := by
  obtain ⟨hb, hg⟩ := h
  exact Kd.freshB hb
theorem IsS76.below {w0 W : World} {g : Nat} {f0 : ByteArray} {f1 : Int} {f2 : Bool} {W1 : World} (h : IsS76 w0 W g f0 f1 f2) (hw : Below W.heap.size W W1) : IsS76 w0 W1 g f0 f1 f2 := h.grown (grown_of_below hw none) (by simp)
theorem IsS76.alloc {w0 W : World} {g : Nat} {f0 : ByteArray} {f1 : Int} {f2 : Bool} (h : IsS76 w0 W g f0 f1 f2) (o : Obj) : IsS76 w0 (W.alloc o) g f0 f1 f2 := h.below (below_alloc (Below.refl _ _) o)
theorem IsS76.drewN {w0 W : World} {g : Nat} {f0 : ByteArray} {f1 : Int} {f2 : Bool} (h : IsS76 w0 W g f0 f1 f2) (m : Nat) : IsS76 w0 (W.drewN m) g f0 f1 f2 := h
theorem IsS76.drew {w0 W : World} {g : Nat} {f0 : ByteArray} {f1 : Int} {f2 : Bool} (h : IsS76 w0 W g f0 f1 f2) : IsS76 w0 W.drew g f0 f1 f2 := h
theorem IsS76.at_ {w0 W : World} {g : Nat} {f0 : ByteArray} {f1 : Int} {f2 : Bool} {w' : World} {m : Nat} (hq : W.drewN m = w') (h : IsS76 w0 W g f0 f1 f2) : IsS76 w0 w' g f0 f1 f2 := by subst hq; exact IsS76.drewN h m
theorem IsS76.apart {w0 W : World} {g : Nat} {f0 : ByteArray} {f1 : Int} {f2 : Bool} {α : Type} {d : Kd α} {e : Nat} {base : Nat} {ok : Nat → Prop} {v : Value} {xs : List α} (h : IsS76 w0 W g f0 f1 f2) (ho : d.R e W base ok v xs) (ht : ∀ q, q ∈ e :: d.E → q ≠ 76) : d.R e W base (fun k => ok k ∧ k ≠ g) v xs := by
  obtain ⟨hb, hg⟩ := h
  exact Kd.R_types ho hb ht
theorem IsS76.own_ne {w0 W : World} {g : Nat} {f0 : ByteArray} {f1 : Int} {f2 : Bool} {α : Type} {d : Kd α} {e : Nat} {base : Nat} {ok : Nat → Prop} {v : Value} {xs : List α} (h : IsS76 w0 W g f0 f1 f2) (ho : d.R e W base ok v xs) (ht : e ≠ 76) : some g ≠ v.ownBlock := by
  obtain ⟨hb, hg⟩ := h
  exact Kd.R_ne ho hb ht
theorem IsS76.lt {w0 W : World} {g : Nat} {f0 : ByteArray} {f1 : Int} {f2 : Bool} (h : IsS76 w0 W g f0 f1 f2) : g < W.heap.size := by
  obtain ⟨hb, hg⟩ := h
  exact blk_lt hb
theorem IsS76.ge {w0 W : World} {g : Nat} {f0 : ByteArray} {f1 : Int} {f2 : Bool} (h : IsS76 w0 W g f0 f1 f2) : w0.heap.size ≤ g := by
  obtain ⟨hb, hg⟩ := h
  exact hg
theorem IsS76.ne_blk {w0 W : World} {g : Nat} {f0 : ByteArray} {f1 : Int} {f2 : Bool} {a : Nat} {cs : Array Value} {t : TypeId} {fr : Nat × Nat} (h : IsS76 w0 W g f0 f1 f2) (hb2 : W.heap[a]? = some (.cells cs t fr)) (ht : t ≠ 76) : g ≠ a := by
  obtain ⟨hb, hg⟩ := h
  rintro rfl
  rw [hb] at hb2
  injection hb2 with hb2
  injection hb2 with _ ht2
  exact ht ht2.symm
theorem IsS76.far {w0 W : World} {g : Nat} {f0 : ByteArray} {f1 : Int} {f2 : Bool} {p : Addr} (h : IsS76 w0 W g f0 f1 f2) (hne : g ≠ p.block) (u : Value) : IsS76 w0 (W.setCell p u) g f0 f1 f2 := by
  obtain ⟨hb, hg⟩ := h
  exact ⟨blk_far hb hne u, hg⟩
theorem cellS76_0 {W : World} {g : Nat} {f0 : ByteArray} {f1 : Int} {f2 : Bool} (h : W.heap[g]? = some (.cells #[.string f0, .int .i64 f1, .bool f2] 76 (0, 0))) : W.cell? ⟨g, 0, none⟩ = some (.string f0) := (blk_cell h 0).trans rfl
theorem IsS76.set_0 {w0 W : World} {g : Nat} {f0 : ByteArray} {f1 : Int} {f2 : Bool} (h : IsS76 w0 W g f0 f1 f2) (x : ByteArray) : IsS76 w0 (W.setCell ⟨g, 0, none⟩ (.string x)) g x f1 f2 := by
  obtain ⟨hb, hg⟩ := h
  exact ⟨by simpa using blk_set hb 0 (.string x), hg⟩
theorem cellS76_1 {W : World} {g : Nat} {f0 : ByteArray} {f1 : Int} {f2 : Bool} (h : W.heap[g]? = some (.cells #[.string f0, .int .i64 f1, .bool f2] 76 (0, 0))) : W.cell? ⟨g, 1, none⟩ = some (.int .i64 f1) := (blk_cell h 1).trans rfl
theorem IsS76.set_1 {w0 W : World} {g : Nat} {f0 : ByteArray} {f1 : Int} {f2 : Bool} (h : IsS76 w0 W g f0 f1 f2) (x : Int) : IsS76 w0 (W.setCell ⟨g, 1, none⟩ (.int .i64 x)) g f0 x f2 := by
  obtain ⟨hb, hg⟩ := h
  exact ⟨by simpa using blk_set hb 1 (.int .i64 x), hg⟩
theorem cellS76_2 {W : World} {g : Nat} {f0 : ByteArray} {f1 : Int} {f2 : Bool} (h : W.heap[g]? = some (.cells #[.string f0, .int .i64 f1, .bool f2] 76 (0, 0))) : W.cell? ⟨g, 2, none⟩ = some (.bool f2) := (blk_cell h 2).trans rfl
theorem IsS76.set_2 {w0 W : World} {g : Nat} {f0 : ByteArray} {f1 : Int} {f2 : Bool} (h : IsS76 w0 W g f0 f1 f2) (x : Bool) : IsS76 w0 (W.setCell ⟨g, 2, none⟩ (.bool x)) g f0 f1 x := by
  obtain ⟨hb, hg⟩ := h
  exact ⟨by simpa using blk_set hb 2 (.bool x), hg⟩
theorem IsS76.new (w0 W : World) (f0 : ByteArray) (f1 : Int) (f2 : Bool) (hB : Below w0.heap.size w0 W) : IsS76 w0 (W.alloc (.cells #[.string f0, .int .i64 f1, .bool f2] 76)) W.heap.size f0 f1 f2 := ⟨by simpa using heap_alloc_new W _, hB.size⟩

/-! ### varint_New: function 29 -/
def varint_New.f (a0 : ByteArray) : Option (ByteArray × Int × Bool) := some (a0, 0, false)
set_option maxHeartbeats 8000000 in
set_option maxRecDepth 100000 in
theorem varint_New.calls (a0 : ByteArray) (r1 : ByteArray) (r2 : Int) (r3 : Bool) (w0 w : World) (hB : Below w0.heap.size w0 w) (h : varint_New.f a0 = some (r1, r2, r3)) :
    Calls Tryd.prog 29 #[.string a0] w fun e w' => ∃ g_ : Nat, e = .returned (.pointer (some ⟨g_, 0, none⟩)) ∧ IsS76 w0 w' g_ r1 r2 r3 ∧ Below w0.heap.size w0 w' ∧ Below w.heap.size w w' ∧ w.heap.size ≤ g_ := by
  have hu76 := Tryd.underlying76
  have HBW := Aside0.mk (Below.refl w.heap.size w)
  have HW0 := Aside0.mk hB.size
  have HB := Aside0.mk hB
  clear hB
  have H : (some (a0, 0, false)) = some (r1, r2, r3) := h
  clear h
  simp only [Option.some.injEq, Prod.mk.injEq] at H
  obtain ⟨rfl, rfl, rfl⟩ := H
  go_enter Tryd.func29, Tryd.ntmps29
  go_wp2_with (first | ((with_reducible refine gate_dst (N := 5) rfl ?_); refine box_event ?hg (N := 5) ?hd (cs := #[.string a0, .int .i64 0, .bool false]) (t := 76) ?hr ?_; (case hd => rfl); (case hg => rfl); (case hr => first | (go_simp; done) | (go_simp; rfl)); intro gb151 hg w2 hbox hb; have n0_ := Aside0.mk (below_step HBW.out hb); have n1_ := Aside0.mk (below_step (by repeat (first | (with_reducible first | exact HB.out | apply below_alloc | apply pw_below_drewN | apply below_drew1) | exact HB.out)) hb); have n2_ := Aside0.mk (hbox); have n3_ := Aside0.mk ((by rw [hg]; exact (below_size (by repeat (first | (with_reducible first | exact HBW.out | apply below_alloc | apply pw_below_drewN | apply below_drew1) | exact HBW.out))) : w.heap.size ≤ gb151)); have n4_ := Aside0.mk ((Nat.le_trans HW0.out (by rw [hg]; exact (below_size (by repeat (first | (with_reducible first | exact HBW.out | apply below_alloc | apply pw_below_drewN | apply below_drew1) | exact HBW.out))) : w.heap.size ≤ gb151) : w0.heap.size ≤ gb151)); clear HBW; clear HB; have HBW := n0_; have HB := n1_; have BK151 := n2_; have GW151 := n3_; have GE151 := n4_; clear n0_ n1_ n2_ n3_ n4_; clear hb hbox hg))
  go_ret
  exact ⟨_, rfl, (show IsS76 w0 _ gb151 a0 0 false from ⟨by (with_reducible repeat (first | refine blk_drewN ?_ _ | refine blk_drew ?_ | refine blk_alloc ?_ _)); exact BK151.out, GE151.out⟩), by repeat (first | (with_reducible first | exact HB.out | apply below_alloc | apply pw_below_drewN | apply below_drew1 | refine below_set ?_ GE151.out) | exact HB.out), by repeat (first | (with_reducible first | exact HBW.out | apply below_alloc | apply pw_below_drewN | apply below_drew1 | refine below_set ?_ GW151.out) | exact HBW.out), GW151.out⟩

end Go.Proofs.YtdgaancbeakfdaaDoor.Q
namespace Go.Proofs.YtdgaancbeakfdaaDoor.Q
open Go.RowKit Go.Proofs.YtdgaancbeakfdaaDoorW.PrintWords Go.Proofs.YtdgaancbeakfdaaDoorW.PrintLast Go.Proofs.YtdgaancbeakfdaaDoor.Mo
attribute [local go_sem] max2_int min2_int max_two min_two max_three min_three max_four min_four   -- for this text's walks alone
open Go.Proofs.YtdgaancbeakfdaaDoor.Giv Go.Proofs.YtdgaancbeakfdaaDoor.Gn
set_option linter.unusedVariables false
set_option linter.unusedSimpArgs false

/-! ### varint_Reader_Bad: function 31 -/
def varint_Reader_Bad.f (s0_0 : ByteArray) (s0_1 : Int) (s0_2 : Bool) : Option (Bool × ByteArray × Int × Bool) := some (s0_2, s0_0, s0_1, s0_2)
set_option maxHeartbeats 8000000 in
set_option maxRecDepth 100000 in
theorem varint_Reader_Bad.calls (g : Nat) (s0_0 : ByteArray) (s0_1 : Int) (s0_2 : Bool) (r1 : Bool) (r2 : ByteArray) (r3 : Int) (r4 : Bool) (w0 w : World) (hI : IsS76 w0 w g s0_0 s0_1 s0_2) (hB : Below w0.heap.size w0 w) (h : varint_Reader_Bad.f s0_0 s0_1 s0_2 = some (r1, r2, r3, r4)) :
    Calls Tryd.prog 31 #[.pointer (some ⟨g, 0, none⟩)] w fun e w' => e = .returned (.bool r1) ∧ IsS76 w0 w' g r2 r3 r4 ∧ Below w0.heap.size w0 w' ∧ KeepBut w w' g none := by
  have HI0 := Aside0.mk hI
  have HK := Aside0.mk (KeepBut.refl w g none)
  have HL := Aside0.mk hB.size
  clear hI
  have HW0 := Aside0.mk hB.size
  have HB := Aside0.mk hB
  clear hB
  have H : (some (s0_2, s0_0, s0_1, s0_2)) = some (r1, r2, r3, r4) := h
  clear h
  simp only [Option.some.injEq, Prod.mk.injEq] at H
  obtain ⟨rfl, rfl, rfl, rfl⟩ := H
  obtain ⟨HGz2, hgz2⟩ := HI0.out
  have hcz2_0 := cellS76_0 HGz2
  have hcz2_1 := cellS76_1 HGz2
  have hcz2_2 := cellS76_2 HGz2
  have hfz2_0 := blk_frozen HGz2 0
  have hfz2_1 := blk_frozen HGz2 1
  have hfz2_2 := blk_frozen HGz2 2
  clear HGz2 hgz2
  go_enter Tryd.func31, Tryd.ntmps31
  go_wp2
  go_ret
  exact ⟨by first | rfl | (simp [errW_none, errW_some] <;> rfl) | (simp [*, errW_none, errW_some] <;> rfl), by repeat (first | (with_reducible first | exact HI0.out | apply IsS76.alloc | apply IsS76.drewN | apply IsS76.drew | apply IsS76.set_0 | apply IsS76.set_1 | apply IsS76.set_2) | exact HI0.out), by repeat (first | (with_reducible first | exact HB.out | apply below_alloc | apply pw_below_drewN | apply below_drew1 | refine below_set ?_ (IsS76.ge HI0.out)) | exact HB.out), by repeat (first | (with_reducible first | exact HK.out | apply KeepBut.set_ | apply keep_drewN | apply keep_drew | apply keep_alloc) | exact HK.out)⟩

end Go.Proofs.YtdgaancbeakfdaaDoor.Q
namespace Go.Proofs.YtdgaancbeakfdaaDoor.Q
open Go.RowKit Go.Proofs.YtdgaancbeakfdaaDoorW.PrintWords Go.Proofs.YtdgaancbeakfdaaDoorW.PrintLast Go.Proofs.YtdgaancbeakfdaaDoor.Mo
attribute [local go_sem] max2_int min2_int max_two min_two max_three min_three max_four min_four   -- for this text's walks alone
open Go.Proofs.YtdgaancbeakfdaaDoor.Giv Go.Proofs.YtdgaancbeakfdaaDoor.Gn
set_option linter.unusedVariables false
set_option linter.unusedSimpArgs false

/-! ### varint_Reader_Left: function 50 -/
def varint_Reader_Left.f (s0_0 : ByteArray) (s0_1 : Int) (s0_2 : Bool) : Option (Int × ByteArray × Int × Bool) := some (wrap64 ((s0_0.size : Int) - s0_1), s0_0, s0_1, s0_2)
set_option maxHeartbeats 8000000 in
set_option maxRecDepth 100000 in
theorem varint_Reader_Left.calls (g : Nat) (s0_0 : ByteArray) (s0_1 : Int) (s0_2 : Bool) (r1 : Int) (r2 : ByteArray) (r3 : Int) (r4 : Bool) (w0 w : World) (hI : IsS76 w0 w g s0_0 s0_1 s0_2) (hB : Below w0.heap.size w0 w) (h : varint_Reader_Left.f s0_0 s0_1 s0_2 = some (r1, r2, r3, r4)) :
    Calls Tryd.prog 50 #[.pointer (some ⟨g, 0, none⟩)] w fun e w' => e = .returned (.int .i64 r1) ∧ IsS76 w0 w' g r2 r3 r4 ∧ Below w0.heap.size w0 w' ∧ KeepBut w w' g none := by
  have HI0 := Aside0.mk hI
  have HK := Aside0.mk (KeepBut.refl w g none)
  have HL := Aside0.mk hB.size
  clear hI
  have HW0 := Aside0.mk hB.size
  have HB := Aside0.mk hB
  clear hB
  have H : (some (wrap64 ((s0_0.size : Int) - s0_1), s0_0, s0_1, s0_2)) = some (r1, r2, r3, r4) := h
  clear h
  simp only [Option.some.injEq, Prod.mk.injEq] at H
  obtain ⟨rfl, rfl, rfl, rfl⟩ := H
  obtain ⟨HGz2, hgz2⟩ := HI0.out
  have hcz2_0 := cellS76_0 HGz2
  have hcz2_1 := cellS76_1 HGz2
  have hcz2_2 := cellS76_2 HGz2
  have hfz2_0 := blk_frozen HGz2 0
  have hfz2_1 := blk_frozen HGz2 1
  have hfz2_2 := blk_frozen HGz2 2
  clear HGz2 hgz2
  go_enter Tryd.func50, Tryd.ntmps50
  go_wp2
  repeat (go_quiet (fail); try go_wp2)
  go_ret
  exact ⟨by first | rfl | (simp [errW_none, errW_some] <;> rfl) | (simp [*, errW_none, errW_some] <;> rfl), by repeat (first | (with_reducible first | exact HI0.out | apply IsS76.alloc | apply IsS76.drewN | apply IsS76.drew | apply IsS76.set_0 | apply IsS76.set_1 | apply IsS76.set_2) | exact HI0.out), by repeat (first | (with_reducible first | exact HB.out | apply below_alloc | apply pw_below_drewN | apply below_drew1 | refine below_set ?_ (IsS76.ge HI0.out)) | exact HB.out), by repeat (first | (with_reducible first | exact HK.out | apply KeepBut.set_ | apply keep_drewN | apply keep_drew | apply keep_alloc) | exact HK.out)⟩

end Go.Proofs.YtdgaancbeakfdaaDoor.Q
namespace Go.Proofs.YtdgaancbeakfdaaDoor.Q
open Go.RowKit Go.Proofs.YtdgaancbeakfdaaDoorW.PrintWords Go.Proofs.YtdgaancbeakfdaaDoorW.PrintLast Go.Proofs.YtdgaancbeakfdaaDoor.Mo
attribute [local go_sem] max2_int min2_int max_two min_two max_three min_three max_four min_four   -- for this text's walks alone
open Go.Proofs.YtdgaancbeakfdaaDoor.Giv Go.Proofs.YtdgaancbeakfdaaDoor.Gn
set_option linter.unusedVariables false
set_option linter.unusedSimpArgs false

/-! ### varint_Reader_spoil: function 51 -/
def varint_Reader_spoil.f (s0_0 : ByteArray) (s0_1 : Int) (s0_2 : Bool) : Option (ByteArray × Int × Bool) := some (s0_0, s0_1, true)
set_option maxHeartbeats 8000000 in
set_option maxRecDepth 100000 in
theorem varint_Reader_spoil.calls (g : Nat) (s0_0 : ByteArray) (s0_1 : Int) (s0_2 : Bool) (r1 : ByteArray) (r2 : Int) (r3 : Bool) (w0 w : World) (hI : IsS76 w0 w g s0_0 s0_1 s0_2) (hB : Below w0.heap.size w0 w) (h : varint_Reader_spoil.f s0_0 s0_1 s0_2 = some (r1, r2, r3)) :
    Calls Tryd.prog 51 #[.pointer (some ⟨g, 0, none⟩)] w fun e w' => e = .returned (.tuple #[]) ∧ IsS76 w0 w' g r1 r2 r3 ∧ Below w0.heap.size w0 w' ∧ KeepBut w w' g none := by
  have HI0 := Aside0.mk hI
  have HK := Aside0.mk (KeepBut.refl w g none)
  have HL := Aside0.mk hB.size
  clear hI
  have HW0 := Aside0.mk hB.size
  have HB := Aside0.mk hB
  clear hB
  have H : (some (s0_0, s0_1, true)) = some (r1, r2, r3) := h
  clear h
  simp only [Option.some.injEq, Prod.mk.injEq] at H
  obtain ⟨rfl, rfl, rfl⟩ := H
  obtain ⟨HGz2, hgz2⟩ := HI0.out
  have hcz2_0 := cellS76_0 HGz2
  have hcz2_1 := cellS76_1 HGz2
  have hcz2_2 := cellS76_2 HGz2
  have hfz2_0 := blk_frozen HGz2 0
  have hfz2_1 := blk_frozen HGz2 1
  have hfz2_2 := blk_frozen HGz2 2
  clear HGz2 hgz2
  go_enter Tryd.func51, Tryd.ntmps51
  go_wp2
  first | go_end0 | ((try simp only [Exit.inBlock, Exit.then]); refine bodyPost_ret (results_none rfl _ _ _) rfl ?_)
  exact ⟨by first | rfl | (simp [errW_none, errW_some] <;> rfl) | (simp [*, errW_none, errW_some] <;> rfl), by repeat (first | (with_reducible first | exact HI0.out | apply IsS76.alloc | apply IsS76.drewN | apply IsS76.drew | apply IsS76.set_0 | apply IsS76.set_1 | apply IsS76.set_2) | exact HI0.out), by repeat (first | (with_reducible first | exact HB.out | apply below_alloc | apply pw_below_drewN | apply below_drew1 | refine below_set ?_ (IsS76.ge HI0.out)) | exact HB.out), by repeat (first | (with_reducible first | exact HK.out | apply KeepBut.set_ | apply keep_drewN | apply keep_drew | apply keep_alloc) | exact HK.out)⟩

end Go.Proofs.YtdgaancbeakfdaaDoor.Q
namespace Go.Proofs.YtdgaancbeakfdaaDoor.Q
open Go.RowKit Go.Proofs.YtdgaancbeakfdaaDoorW.PrintWords Go.Proofs.YtdgaancbeakfdaaDoorW.PrintLast Go.Proofs.YtdgaancbeakfdaaDoor.Mo
attribute [local go_sem] max2_int min2_int max_two min_two max_three min_three max_four min_four   -- for this text's walks alone
open Go.Proofs.YtdgaancbeakfdaaDoor.Giv Go.Proofs.YtdgaancbeakfdaaDoor.Gn
set_option linter.unusedVariables false
set_option linter.unusedSimpArgs false

/-! ### varint_Reader_Num: function 49 -/
mutual
def varint_Reader_Num.l0 : Nat → Int → Int → ByteArray → Int → Bool → Option (Int × ByteArray × Int × Bool)
 | 0, _, _, _, _, _ => none
 | k + 1, x3, x4, xA, xB, xC => if xC = true then (varint_Reader_Num.j1 k x3 x4 false xA xB xC) else ((varint_Reader_Left.f xA xB xC).bind fun btD => (if x4 < btD.1 then (varint_Reader_Num.j1 k x3 x4 (decide (x4 < 10)) btD.2.1 btD.2.2.1 btD.2.2.2) else (varint_Reader_Num.j1 k x3 x4 false btD.2.1 btD.2.2.1 btD.2.2.2)))
def varint_Reader_Num.j1 : Nat → Int → Int → Bool → ByteArray → Int → Bool → Option (Int × ByteArray × Int × Bool)
 | 0, _, _, _, _, _, _ => none
 | k + 1, x3, x4, x20, xA, xB, xC => if x20 = true then (if 0 ≤ (wrap64 (xB + x4)) then (if (wrap64 (xB + x4)) < (xA.size : Int) then (if x4 = 9 then (varint_Reader_Num.j2 k x3 x4 (bt xA (wrap64 (xB + x4))) (decide ((bt xA (wrap64 (xB + x4))) > 1)) xA xB xC) else (varint_Reader_Num.j2 k x3 x4 (bt xA (wrap64 (xB + x4))) false xA xB xC)) else (none)) else (none)) else ((varint_Reader_spoil.f xA xB xC).bind fun btF => (some (0, btF.1, btF.2.1, btF.2.2)))
def varint_Reader_Num.j2 : Nat → Int → Int → Int → Bool → ByteArray → Int → Bool → Option (Int × ByteArray × Int × Bool)
 | 0, _, _, _, _, _, _, _ => none
 | k + 1, x3, x4, x5, x39, xA, xB, xC => if x39 = true then ((varint_Reader_spoil.f xA xB xC).bind fun btG => (some (0, btG.1, btG.2.1, btG.2.2))) else (if 0 ≤ (wrap64 (7 * x4)) then (if x5 < 128 then (if x5 = 0 then (if x4 > 0 then ((varint_Reader_spoil.f xA xB xC).bind fun btE => (some (0, btE.1, btE.2.1, btE.2.2))) else (some (Go.bits .xor .i64 (wrap64 ((Go.bits .or .u64 x3 (shl .u64 (IntKind.u64.wrap (Go.bits .andNot .u8 x5 128)) (wrap64 (7 * x4)))) / 2)) (wrap64 (-(wrap64 (Go.bits .and .u64 (Go.bits .or .u64 x3 (shl .u64 (IntKind.u64.wrap (Go.bits .andNot .u8 x5 128)) (wrap64 (7 * x4)))) 1)))), xA, wrap64 (xB + (wrap64 (x4 + 1))), xC))) else (some (Go.bits .xor .i64 (wrap64 ((Go.bits .or .u64 x3 (shl .u64 (IntKind.u64.wrap (Go.bits .andNot .u8 x5 128)) (wrap64 (7 * x4)))) / 2)) (wrap64 (-(wrap64 (Go.bits .and .u64 (Go.bits .or .u64 x3 (shl .u64 (IntKind.u64.wrap (Go.bits .andNot .u8 x5 128)) (wrap64 (7 * x4)))) 1)))), xA, wrap64 (xB + (wrap64 (x4 + 1))), xC))) else (varint_Reader_Num.l0 k (Go.bits .or .u64 x3 (shl .u64 (IntKind.u64.wrap (Go.bits .andNot .u8 x5 128)) (wrap64 (7 * x4)))) (wrap64 (x4 + 1)) xA xB xC)) else (none))
end
def varint_Reader_Num.f (k : Nat) (s0_0 : ByteArray) (s0_1 : Int) (s0_2 : Bool) : Option (Int × ByteArray × Int × Bool) := varint_Reader_Num.l0 k 0 0 s0_0 s0_1 s0_2
theorem varint_Reader_Num.mono_l : ∀ k, (∀ y0 y1 y2 y3 y4, LeO (varint_Reader_Num.l0 k y0 y1 y2 y3 y4) (varint_Reader_Num.l0 (k + 1) y0 y1 y2 y3 y4)) ∧ (∀ y0 y1 y2 y3 y4 y5, LeO (varint_Reader_Num.j1 k y0 y1 y2 y3 y4 y5) (varint_Reader_Num.j1 (k + 1) y0 y1 y2 y3 y4 y5)) ∧ (∀ y0 y1 y2 y3 y4 y5 y6, LeO (varint_Reader_Num.j2 k y0 y1 y2 y3 y4 y5 y6) (varint_Reader_Num.j2 (k + 1) y0 y1 y2 y3 y4 y5 y6))
 | 0 => ⟨fun _ _ _ _ _ r h => by simp [varint_Reader_Num.l0] at h, fun _ _ _ _ _ _ r h => by simp [varint_Reader_Num.j1] at h, fun _ _ _ _ _ _ _ r h => by simp [varint_Reader_Num.j2] at h⟩
 | k + 1 => by
  obtain ⟨ih0, ih1, ih2⟩ := varint_Reader_Num.mono_l k
  refine ⟨?_, ?_, ?_⟩
  ·intro y0 y1 y2 y3 y4
   unfold varint_Reader_Num.l0
   repeat' first
   | (with_reducible exact ih0 _ _ _ _ _)
   | (with_reducible exact ih1 _ _ _ _ _ _)
   | (with_reducible exact ih2 _ _ _ _ _ _ _)
   | (with_reducible exact LeO.refl _)
   | (with_reducible exact LeO.none _)
   | (with_reducible refine LeO.ite ?_ ?_)
   | (with_reducible refine LeO.bind ?_ (fun _ => ?_))
   | exact ih0 _ _ _ _ _
   | exact ih1 _ _ _ _ _ _
   | exact ih2 _ _ _ _ _ _ _
   | exact LeO.none _
   | refine LeO.ite ?_ ?_
   | refine LeO.bind ?_ (fun _ => ?_)
  ·intro y0 y1 y2 y3 y4 y5
   unfold varint_Reader_Num.j1
   repeat' first
   | (with_reducible exact ih0 _ _ _ _ _)
   | (with_reducible exact ih1 _ _ _ _ _ _)
   | (with_reducible exact ih2 _ _ _ _ _ _ _)
   | (with_reducible exact LeO.refl _)
   | (with_reducible exact LeO.none _)
   | (with_reducible refine LeO.ite ?_ ?_)
   | (with_reducible refine LeO.bind ?_ (fun _ => ?_))
   | exact ih0 _ _ _ _ _
   | exact ih1 _ _ _ _ _ _
   | exact ih2 _ _ _ _ _ _ _
   | exact LeO.none _
   | refine LeO.ite ?_ ?_
   | refine LeO.bind ?_ (fun _ => ?_)
  ·intro y0 y1 y2 y3 y4 y5 y6
   unfold varint_Reader_Num.j2
   repeat' first
   | (with_reducible exact ih0 _ _ _ _ _)
   | (with_reducible exact ih1 _ _ _ _ _ _)
   | (with_reducible exact ih2 _ _ _ _ _ _ _)
   | (with_reducible exact LeO.refl _)
   | (with_reducible exact LeO.none _)
   | (with_reducible refine LeO.ite ?_ ?_)
   | (with_reducible refine LeO.bind ?_ (fun _ => ?_))
   | exact ih0 _ _ _ _ _
   | exact ih1 _ _ _ _ _ _
   | exact ih2 _ _ _ _ _ _ _
   | exact LeO.none _
   | refine LeO.ite ?_ ?_
   | refine LeO.bind ?_ (fun _ => ?_)
theorem varint_Reader_Num.mono : ∀ a0 a1 a2 k, LeO (varint_Reader_Num.f k a0 a1 a2) (varint_Reader_Num.f (k + 1) a0 a1 a2) := by
 intro a0 a1 a2 k
 obtain ⟨ih0, ih1, ih2⟩ := varint_Reader_Num.mono_l k
 unfold varint_Reader_Num.f
 repeat' first
   | (with_reducible exact ih0 _ _ _ _ _)
   | (with_reducible exact ih1 _ _ _ _ _ _)
   | (with_reducible exact ih2 _ _ _ _ _ _ _)
   | (with_reducible exact LeO.refl _)
   | (with_reducible exact LeO.none _)
   | (with_reducible refine LeO.ite ?_ ?_)
   | (with_reducible refine LeO.bind ?_ (fun _ => ?_))
   | exact ih0 _ _ _ _ _
   | exact ih1 _ _ _ _ _ _
   | exact ih2 _ _ _ _ _ _ _
   | exact LeO.none _
   | refine LeO.ite ?_ ?_
   | refine LeO.bind ?_ (fun _ => ?_)
set_option maxHeartbeats 8000000 in
set_option maxRecDepth 100000 in
theorem varint_Reader_Num.calls (k : Nat) (g : Nat) (s0_0 : ByteArray) (s0_1 : Int) (s0_2 : Bool) (r1 : Int) (r2 : ByteArray) (r3 : Int) (r4 : Bool) (w0 w : World) (hI : IsS76 w0 w g s0_0 s0_1 s0_2) (hB : Below w0.heap.size w0 w) (h : varint_Reader_Num.f k s0_0 s0_1 s0_2 = some (r1, r2, r3, r4)) :
  Calls Tryd.prog 49 #[.pointer (some ⟨g, 0, none⟩)] w fun e w' => e = .returned (.int .i64 r1) ∧ IsS76 w0 w' g r2 r3 r4 ∧ Below w0.heap.size w0 w' ∧ KeepBut w w' g none := by
 have HI0 := Aside0.mk hI
 have HK := Aside0.mk (KeepBut.refl w g none)
 have HL := Aside0.mk hB.size
 clear hI
 have HW0 := Aside0.mk hB.size
 have HB := Aside0.mk hB
 clear hB
 have H : (varint_Reader_Num.l0 k 0 0 s0_0 s0_1 s0_2) = some (r1, r2, r3, r4) := h
 clear h
 have H' := Aside0.mk H
 clear H
 go_enter Tryd.func49, Tryd.ntmps49
 go_wp2
 repeat (go_quiet (fail); try go_wp2)
 go_loopg [3, 4] k (fun kq v3 v4 w' => ∃ (x3_1 : Int) (x4_1 : Int) (xA_1 : ByteArray) (xB_1 : Int) (xC_1 : Bool), v3 = .int .u64 x3_1 ∧ v4 = .int .i64 x4_1 ∧ Aside0 (varint_Reader_Num.l0 kq x3_1 x4_1 xA_1 xB_1 xC_1 = some (r1, r2, r3, r4)) ∧ Aside0 (kq ≤ k) ∧ Aside0 (IsS76 w0 w' g xA_1 xB_1 xC_1) ∧ Aside0 (KeepBut w w' g none) ∧ Aside0 (Below w0.heap.size w0 w'))
 case atStart => exact ⟨(0), (0), (s0_0), (s0_1), (s0_2), (by first | rfl | (simp; done) | (simp [*]; done)), (by first | rfl | (simp; done) | (simp [*]; done)), H', ⟨Nat.le_refl _⟩, ⟨by repeat (first | (with_reducible first | exact HI0.out | apply IsS76.alloc | apply IsS76.drewN | apply IsS76.drew | apply IsS76.set_0 | apply IsS76.set_1 | apply IsS76.set_2) | exact HI0.out)⟩, ⟨by repeat (first | (with_reducible first | exact HK.out | apply KeepBut.set_ | apply keep_drewN | apply keep_drew | apply keep_alloc) | exact HK.out)⟩, ⟨by repeat (first | (with_reducible first | exact HB.out | apply below_alloc | apply pw_below_drewN | apply below_drew1 | refine below_set ?_ (IsS76.ge HI0.out)) | exact HB.out)⟩⟩
 case round =>
  clear H'
  obtain ⟨x3_1, x4_1, xA_1, xB_1, xC_1, rfl, rfl, HA, HK1, HI0, HK, HB⟩ := hrel
  cases gk with
  | zero => exact absurd HA.out (by simp [varint_Reader_Num.l0])
  | succ k1 =>
   have H := HA.out
   clear HA
   simp only [varint_Reader_Num.l0] at H
   have HC2 := Aside0.mk H
   clear H
   go_upto_region 3 with (fail)
   repeat (go_quiet (fail); go_upto_region 3 with (fail))
   go_cut [20] (fun v20 wc => ∃ (kq : Nat) (x20_1 : Bool) (xA_1 : ByteArray) (xB_1 : Int) (xC_1 : Bool), v20 = .bool x20_1 ∧ Aside0 (varint_Reader_Num.j1 kq x3_1 x4_1 x20_1 xA_1 xB_1 xC_1 = some (r1, r2, r3, r4)) ∧ Aside0 (kq ≤ k1) ∧ Aside0 (IsS76 w0 wc g xA_1 xB_1 xC_1) ∧ Aside0 (KeepBut w wc g none) ∧ Aside0 (Below w0.heap.size w0 wc))
   case first =>
    have H := HC2.out
    clear HC2
    by_cases c3 : xC_1 = true
    ·subst c3
     have H1 : (varint_Reader_Num.j1 k1 x3_1 x4_1 false xA_1 xB_1 true) = some (r1, r2, r3, r4) := by rw [if_pos rfl] at H; exact H
     clear H
     have H := H1
     clear H1
     have H' := Aside0.mk H
     clear H
     obtain ⟨HGz4, hgz4⟩ := HI0.out
     have hcz4_0 := cellS76_0 HGz4
     have hcz4_1 := cellS76_1 HGz4
     have hcz4_2 := cellS76_2 HGz4
     have hfz4_0 := blk_frozen HGz4 0
     have hfz4_1 := blk_frozen HGz4 1
     have hfz4_2 := blk_frozen HGz4 2
     clear HGz4 hgz4
     go_wp2
     repeat (go_quiet (fail); try go_wp2)
     go_meet
     case rel => exact ⟨_, (false), (xA_1), (xB_1), (true), (by first | rfl | (simp; done) | (simp [*]; done)), H', ⟨by have := HK1.out; first | omega | exact Nat.le_refl _⟩, ⟨by repeat (first | (with_reducible first | exact HI0.out | apply IsS76.alloc | apply IsS76.drewN | apply IsS76.drew | apply IsS76.set_0 | apply IsS76.set_1 | apply IsS76.set_2) | exact HI0.out)⟩, ⟨by repeat (first | (with_reducible first | exact HK.out | apply KeepBut.set_ | apply keep_drewN | apply keep_drew | apply keep_alloc) | exact HK.out)⟩, ⟨by repeat (first | (with_reducible first | exact HB.out | apply below_alloc | apply pw_below_drewN | apply below_drew1 | refine below_set ?_ (IsS76.ge HI0.out)) | exact HB.out)⟩⟩
    ·replace c3 := Bool.eq_false_iff.mpr c3
     subst c3
     have H1 : ((varint_Reader_Left.f xA_1 xB_1 false).bind fun btD => (if x4_1 < btD.1 then (varint_Reader_Num.j1 k1 x3_1 x4_1 (decide (x4_1 < 10)) btD.2.1 btD.2.2.1 btD.2.2.2) else (varint_Reader_Num.j1 k1 x3_1 x4_1 false btD.2.1 btD.2.2.1 btD.2.2.2))) = some (r1, r2, r3, r4) := by rw [if_neg (show ¬ (false = true) by decide)] at H; exact H
     clear H
     have H := H1
     clear H1
     replace H := Option.bind_eq_some_iff.mp H
     obtain ⟨⟨tD, tH, tI, tJ⟩, A50, H⟩ := H
     replace H : (if x4_1 < tD then (varint_Reader_Num.j1 k1 x3_1 x4_1 (decide (x4_1 < 10)) tH tI tJ) else (varint_Reader_Num.j1 k1 x3_1 x4_1 false tH tI tJ)) = some (r1, r2, r3, r4) := H
     have A5 := Aside0.mk A50
     clear A50
     by_cases c6 : x4_1 < tD
     ·rw [if_pos c6] at H
      have c6b0 : decide (x4_1 < tD) = true := decide_eq_true c6
      clear c6
      (first | rw [c6b0] | (simp only [i64_w, i32_w]; rw [c6b0]) | skip)
      have H' := Aside0.mk H
      clear H
      obtain ⟨HGz7, hgz7⟩ := HI0.out
      have hcz7_0 := cellS76_0 HGz7
      have hcz7_1 := cellS76_1 HGz7
      have hcz7_2 := cellS76_2 HGz7
      have hfz7_0 := blk_frozen HGz7 0
      have hfz7_1 := blk_frozen HGz7 1
      have hfz7_2 := blk_frozen HGz7 2
      clear HGz7 hgz7
      go_wp2_with (first | (go_at_call 50; (with_reducible refine (varint_Reader_Left.calls g xA_1 xB_1 false tD tH tI tJ w0 _ ?side1 ?side2 A5.out).mono ?_); (case side1 => repeat (first | (with_reducible first | exact HI0.out | apply IsS76.alloc | apply IsS76.drewN | apply IsS76.drew | apply IsS76.set_0 | apply IsS76.set_1 | apply IsS76.set_2) | exact HI0.out)); (case side2 => repeat (first | (with_reducible first | exact HB.out | apply below_alloc | apply pw_below_drewN | apply below_drew1 | refine below_set ?_ (IsS76.ge HI0.out)) | exact HB.out)); rintro e w8 ⟨rfl, hi, hb, hk⟩; have n0_ := Aside0.mk (KeepBut.trans (by repeat (first | (with_reducible first | exact HK.out | apply KeepBut.set_ | apply keep_drewN | apply keep_drew | apply keep_alloc) | exact HK.out)) hk (.inl rfl)); have n1_ := Aside0.mk (hb); have n2_ := Aside0.mk (hi); clear HK; clear HB; clear HI0; have HK := n0_; have HB := n1_; have HI0 := n2_; clear n0_ n1_ n2_; (try clear hb); (try clear hb2); (try clear hk); (try clear hi); (try clear hge)))
      repeat (go_quiet (first | (go_at_call 50; (with_reducible refine (varint_Reader_Left.calls g xA_1 xB_1 false tD tH tI tJ w0 _ ?side1 ?side2 A5.out).mono ?_); (case side1 => repeat (first | (with_reducible first | exact HI0.out | apply IsS76.alloc | apply IsS76.drewN | apply IsS76.drew | apply IsS76.set_0 | apply IsS76.set_1 | apply IsS76.set_2) | exact HI0.out)); (case side2 => repeat (first | (with_reducible first | exact HB.out | apply below_alloc | apply pw_below_drewN | apply below_drew1 | refine below_set ?_ (IsS76.ge HI0.out)) | exact HB.out)); rintro e w8 ⟨rfl, hi, hb, hk⟩; have n0_ := Aside0.mk (KeepBut.trans (by repeat (first | (with_reducible first | exact HK.out | apply KeepBut.set_ | apply keep_drewN | apply keep_drew | apply keep_alloc) | exact HK.out)) hk (.inl rfl)); have n1_ := Aside0.mk (hb); have n2_ := Aside0.mk (hi); clear HK; clear HB; clear HI0; have HK := n0_; have HB := n1_; have HI0 := n2_; clear n0_ n1_ n2_; (try clear hb); (try clear hb2); (try clear hk); (try clear hi); (try clear hge))); try go_wp2_with fail)
      go_meet
      case rel => exact ⟨_, (decide (x4_1 < 10)), (tH), (tI), (tJ), (by first | rfl | (simp; done) | (simp [*]; done)), H', ⟨by have := HK1.out; first | omega | exact Nat.le_refl _⟩, ⟨by repeat (first | (with_reducible first | exact HI0.out | apply IsS76.alloc | apply IsS76.drewN | apply IsS76.drew | apply IsS76.set_0 | apply IsS76.set_1 | apply IsS76.set_2) | exact HI0.out)⟩, ⟨by repeat (first | (with_reducible first | exact HK.out | apply KeepBut.set_ | apply keep_drewN | apply keep_drew | apply keep_alloc) | exact HK.out)⟩, ⟨by repeat (first | (with_reducible first | exact HB.out | apply below_alloc | apply pw_below_drewN | apply below_drew1 | refine below_set ?_ (IsS76.ge HI0.out)) | exact HB.out)⟩⟩
     ·rw [if_neg c6] at H
      have c6b0 : decide (x4_1 < tD) = false := decide_eq_false c6
      clear c6
      (first | rw [c6b0] | (simp only [i64_w, i32_w]; rw [c6b0]) | skip)
      have H' := Aside0.mk H
      clear H
      obtain ⟨HGz9, hgz9⟩ := HI0.out
      have hcz9_0 := cellS76_0 HGz9
      have hcz9_1 := cellS76_1 HGz9
      have hcz9_2 := cellS76_2 HGz9
      have hfz9_0 := blk_frozen HGz9 0
      have hfz9_1 := blk_frozen HGz9 1
      have hfz9_2 := blk_frozen HGz9 2
      clear HGz9 hgz9
      go_wp2_with (first | (go_at_call 50; (with_reducible refine (varint_Reader_Left.calls g xA_1 xB_1 false tD tH tI tJ w0 _ ?side1 ?side2 A5.out).mono ?_); (case side1 => repeat (first | (with_reducible first | exact HI0.out | apply IsS76.alloc | apply IsS76.drewN | apply IsS76.drew | apply IsS76.set_0 | apply IsS76.set_1 | apply IsS76.set_2) | exact HI0.out)); (case side2 => repeat (first | (with_reducible first | exact HB.out | apply below_alloc | apply pw_below_drewN | apply below_drew1 | refine below_set ?_ (IsS76.ge HI0.out)) | exact HB.out)); rintro e w10 ⟨rfl, hi, hb, hk⟩; have n0_ := Aside0.mk (KeepBut.trans (by repeat (first | (with_reducible first | exact HK.out | apply KeepBut.set_ | apply keep_drewN | apply keep_drew | apply keep_alloc) | exact HK.out)) hk (.inl rfl)); have n1_ := Aside0.mk (hb); have n2_ := Aside0.mk (hi); clear HK; clear HB; clear HI0; have HK := n0_; have HB := n1_; have HI0 := n2_; clear n0_ n1_ n2_; (try clear hb); (try clear hb2); (try clear hk); (try clear hi); (try clear hge)))
      repeat (go_quiet (first | (go_at_call 50; (with_reducible refine (varint_Reader_Left.calls g xA_1 xB_1 false tD tH tI tJ w0 _ ?side1 ?side2 A5.out).mono ?_); (case side1 => repeat (first | (with_reducible first | exact HI0.out | apply IsS76.alloc | apply IsS76.drewN | apply IsS76.drew | apply IsS76.set_0 | apply IsS76.set_1 | apply IsS76.set_2) | exact HI0.out)); (case side2 => repeat (first | (with_reducible first | exact HB.out | apply below_alloc | apply pw_below_drewN | apply below_drew1 | refine below_set ?_ (IsS76.ge HI0.out)) | exact HB.out)); rintro e w10 ⟨rfl, hi, hb, hk⟩; have n0_ := Aside0.mk (KeepBut.trans (by repeat (first | (with_reducible first | exact HK.out | apply KeepBut.set_ | apply keep_drewN | apply keep_drew | apply keep_alloc) | exact HK.out)) hk (.inl rfl)); have n1_ := Aside0.mk (hb); have n2_ := Aside0.mk (hi); clear HK; clear HB; clear HI0; have HK := n0_; have HB := n1_; have HI0 := n2_; clear n0_ n1_ n2_; (try clear hb); (try clear hb2); (try clear hk); (try clear hi); (try clear hge))); try go_wp2_with fail)
      go_meet
      case rel => exact ⟨_, (false), (tH), (tI), (tJ), (by first | rfl | (simp; done) | (simp [*]; done)), H', ⟨by have := HK1.out; first | omega | exact Nat.le_refl _⟩, ⟨by repeat (first | (with_reducible first | exact HI0.out | apply IsS76.alloc | apply IsS76.drewN | apply IsS76.drew | apply IsS76.set_0 | apply IsS76.set_1 | apply IsS76.set_2) | exact HI0.out)⟩, ⟨by repeat (first | (with_reducible first | exact HK.out | apply KeepBut.set_ | apply keep_drewN | apply keep_drew | apply keep_alloc) | exact HK.out)⟩, ⟨by repeat (first | (with_reducible first | exact HB.out | apply below_alloc | apply pw_below_drewN | apply below_drew1 | refine below_set ?_ (IsS76.ge HI0.out)) | exact HB.out)⟩⟩
   case rest =>
    clear HC2
    obtain ⟨kq, x20_1, xA_1, xB_1, xC_1, rfl, HA, HJ1, HI0, HK, HB⟩ := hcut
    cases kq with
    | zero => exact absurd HA.out (by simp [varint_Reader_Num.j1])
    | succ kj1 =>
     have H := HA.out
     clear HA
     simp only [varint_Reader_Num.j1] at H
     by_cases c11 : x20_1 = true
     ·subst c11
      have H1 : (if 0 ≤ (wrap64 (xB_1 + x4_1)) then (if (wrap64 (xB_1 + x4_1)) < (xA_1.size : Int) then (if x4_1 = 9 then (varint_Reader_Num.j2 kj1 x3_1 x4_1 (bt xA_1 (wrap64 (xB_1 + x4_1))) (decide ((bt xA_1 (wrap64 (xB_1 + x4_1))) > 1)) xA_1 xB_1 xC_1) else (varint_Reader_Num.j2 kj1 x3_1 x4_1 (bt xA_1 (wrap64 (xB_1 + x4_1))) false xA_1 xB_1 xC_1)) else (none)) else (none)) = some (r1, r2, r3, r4) := by rw [if_pos rfl] at H; exact H
      clear H
      have H := H1
      clear H1
      obtain ⟨ji12, hji12⟩ : ∃ j_ : Int, (wrap64 (xB_1 + x4_1)) = j_ := ⟨_, rfl⟩
      replace H : (if 0 ≤ (ji12) then (if (ji12) < (xA_1.size : Int) then (if x4_1 = 9 then (varint_Reader_Num.j2 kj1 x3_1 x4_1 (bt xA_1 (ji12)) (decide ((bt xA_1 (ji12)) > 1)) xA_1 xB_1 xC_1) else (varint_Reader_Num.j2 kj1 x3_1 x4_1 (bt xA_1 (ji12)) false xA_1 xB_1 xC_1)) else (none)) else (none)) = some (r1, r2, r3, r4) := by first | (rw [hji12] at H; exact H) | (simp only [hji12] at H ⊢; exact H)
      have hji12w : (IntKind.i64.wrap (xB_1 + x4_1)) = ji12 := (i64_w _).trans hji12
      by_cases c13 : 0 ≤ (ji12)
      ·rw [if_pos c13] at H
       have c13b0 : decide (0 ≤ (ji12)) = true := decide_eq_true c13
       clear c13
       by_cases c14 : (ji12) < (xA_1.size : Int)
       ·rw [if_pos c14] at H
        have c14b0 : decide ((ji12) < (xA_1.size : Int)) = true := decide_eq_true c14
        clear c14
        have HC16 := Aside0.mk H
        clear H
        obtain ⟨HGz17, hgz17⟩ := HI0.out
        have hcz17_0 := cellS76_0 HGz17
        have hcz17_1 := cellS76_1 HGz17
        have hcz17_2 := cellS76_2 HGz17
        have hfz17_0 := blk_frozen HGz17 0
        have hfz17_1 := blk_frozen HGz17 1
        have hfz17_2 := blk_frozen HGz17 2
        clear HGz17 hgz17
        have p15 : 0 ≤ ((ji12) : Int) := of_decide_eq_true (by first | (with_reducible assumption) | assumption)
        have q15 : (ji12) < (xA_1.size : Int) := of_decide_eq_true (by first | (with_reducible assumption) | assumption)
        have hx15 := bt_at xA_1 (ji12)
        replace p15 := eq_true p15
        (try replace p15z := eq_true p15z)
        replace q15 := eq_true q15
        (try replace q15z := eq_true q15z)
        go_upto_region 6 with (fail)
        repeat (go_quiet (fail); go_upto_region 6 with (fail))
        go_cut [39] (fun v39 wc => ∃ (kq : Nat) (x39_15 : Bool), v39 = .bool x39_15 ∧ Aside0 (varint_Reader_Num.j2 kq x3_1 x4_1 (bt xA_1 (ji12)) x39_15 xA_1 xB_1 xC_1 = some (r1, r2, r3, r4)) ∧ Aside0 (kq ≤ kj1) ∧ Aside0 (IsS76 w0 wc g xA_1 xB_1 xC_1) ∧ Aside0 (KeepBut w wc g none) ∧ Aside0 (Below w0.heap.size w0 wc))
        case first =>
         have H := HC16.out
         clear HC16
         by_cases c18 : x4_1 = 9
         ·rw [if_pos c18] at H
          have c18b0 : (x4_1 == 9) = true := beq_iff_eq.mpr c18
          have c18b1 : (x4_1 != 9) = false := bne_eq_false_iff_eq.mpr c18
          clear c18
          (first | rw [c18b0] | (simp only [i64_w, i32_w]; rw [c18b0]) | skip)
          have H' := Aside0.mk H
          clear H
          go_wp2
          repeat (go_quiet (fail); try go_wp2)
          go_meet
          case rel => exact ⟨_, (decide ((bt xA_1 (ji12)) > 1)), (by first | rfl | (simp; done) | (simp only [← hji12] <;> (first | rfl | simp)) | (simp [*]; done)), H', ⟨by have := HK1.out; have := HJ1.out; first | omega | exact Nat.le_refl _⟩, ⟨by repeat (first | (with_reducible first | exact HI0.out | apply IsS76.alloc | apply IsS76.drewN | apply IsS76.drew | apply IsS76.set_0 | apply IsS76.set_1 | apply IsS76.set_2) | exact HI0.out)⟩, ⟨by repeat (first | (with_reducible first | exact HK.out | apply KeepBut.set_ | apply keep_drewN | apply keep_drew | apply keep_alloc) | exact HK.out)⟩, ⟨by repeat (first | (with_reducible first | exact HB.out | apply below_alloc | apply pw_below_drewN | apply below_drew1 | refine below_set ?_ (IsS76.ge HI0.out)) | exact HB.out)⟩⟩
         ·rw [if_neg c18] at H
          have c18b0 : (x4_1 == 9) = false := beq_eq_false_iff_ne.mpr c18
          have c18b1 : (x4_1 != 9) = true := bne_iff_ne.mpr c18
          (first | rw [c18b0] | (simp only [i64_w, i32_w]; rw [c18b0]) | skip)
          have H' := Aside0.mk H
          clear H
          go_wp2
          repeat (go_quiet (fail); try go_wp2)
          go_meet
          case rel => exact ⟨_, (false), (by first | rfl | (simp; done) | (simp [*]; done)), H', ⟨by have := HK1.out; have := HJ1.out; first | omega | exact Nat.le_refl _⟩, ⟨by repeat (first | (with_reducible first | exact HI0.out | apply IsS76.alloc | apply IsS76.drewN | apply IsS76.drew | apply IsS76.set_0 | apply IsS76.set_1 | apply IsS76.set_2) | exact HI0.out)⟩, ⟨by repeat (first | (with_reducible first | exact HK.out | apply KeepBut.set_ | apply keep_drewN | apply keep_drew | apply keep_alloc) | exact HK.out)⟩, ⟨by repeat (first | (with_reducible first | exact HB.out | apply below_alloc | apply pw_below_drewN | apply below_drew1 | refine below_set ?_ (IsS76.ge HI0.out)) | exact HB.out)⟩⟩
        case rest =>
         clear HC16
         clear c13b0 c14b0 p15 q15 hx15 hcz17_0 hcz17_1 hcz17_2 hfz17_0 hfz17_1 hfz17_2
         obtain ⟨kq, x39_15, rfl, HA, HJ15, HI0, HK, HB⟩ := hcut
         cases kq with
         | zero => exact absurd HA.out (by simp [varint_Reader_Num.j2])
         | succ kj15 =>
          have H := HA.out
          clear HA
          simp only [varint_Reader_Num.j2] at H
          by_cases c19 : x39_15 = true
          ·subst c19
           have H1 : ((varint_Reader_spoil.f xA_1 xB_1 xC_1).bind fun btG => (some (0, btG.1, btG.2.1, btG.2.2))) = some (r1, r2, r3, r4) := by rw [if_pos rfl] at H; exact H
           clear H
           have H := H1
           clear H1
           replace H := Option.bind_eq_some_iff.mp H
           obtain ⟨⟨tG, tK, tL⟩, AQ, H⟩ := H
           replace H : (some (0, tG, tK, tL)) = some (r1, r2, r3, r4) := H
           have A20 := Aside0.mk AQ
           clear AQ
           simp only [Option.some.injEq, Prod.mk.injEq] at H
           obtain ⟨rfl, rfl, rfl, rfl⟩ := H
           go_wp2_with (first | (go_at_call 51; (with_reducible refine (varint_Reader_spoil.calls g xA_1 xB_1 xC_1 tG tK tL w0 _ ?side1 ?side2 A20.out).mono ?_); (case side1 => repeat (first | (with_reducible first | exact HI0.out | apply IsS76.alloc | apply IsS76.drewN | apply IsS76.drew | apply IsS76.set_0 | apply IsS76.set_1 | apply IsS76.set_2) | exact HI0.out)); (case side2 => repeat (first | (with_reducible first | exact HB.out | apply below_alloc | apply pw_below_drewN | apply below_drew1 | refine below_set ?_ (IsS76.ge HI0.out)) | exact HB.out)); rintro e w21 ⟨rfl, hi, hb, hk⟩; have n0_ := Aside0.mk (KeepBut.trans (by repeat (first | (with_reducible first | exact HK.out | apply KeepBut.set_ | apply keep_drewN | apply keep_drew | apply keep_alloc) | exact HK.out)) hk (.inl rfl)); have n1_ := Aside0.mk (hb); have n2_ := Aside0.mk (hi); clear HK; clear HB; clear HI0; have HK := n0_; have HB := n1_; have HI0 := n2_; clear n0_ n1_ n2_; (try clear hb); (try clear hb2); (try clear hk); (try clear hi); (try clear hge)))
           repeat (go_quiet (first | (go_at_call 51; (with_reducible refine (varint_Reader_spoil.calls g xA_1 xB_1 xC_1 tG tK tL w0 _ ?side1 ?side2 A20.out).mono ?_); (case side1 => repeat (first | (with_reducible first | exact HI0.out | apply IsS76.alloc | apply IsS76.drewN | apply IsS76.drew | apply IsS76.set_0 | apply IsS76.set_1 | apply IsS76.set_2) | exact HI0.out)); (case side2 => repeat (first | (with_reducible first | exact HB.out | apply below_alloc | apply pw_below_drewN | apply below_drew1 | refine below_set ?_ (IsS76.ge HI0.out)) | exact HB.out)); rintro e w21 ⟨rfl, hi, hb, hk⟩; have n0_ := Aside0.mk (KeepBut.trans (by repeat (first | (with_reducible first | exact HK.out | apply KeepBut.set_ | apply keep_drewN | apply keep_drew | apply keep_alloc) | exact HK.out)) hk (.inl rfl)); have n1_ := Aside0.mk (hb); have n2_ := Aside0.mk (hi); clear HK; clear HB; clear HI0; have HK := n0_; have HB := n1_; have HI0 := n2_; clear n0_ n1_ n2_; (try clear hb); (try clear hb2); (try clear hk); (try clear hi); (try clear hge))); try go_wp2_with fail)
           go_ret
           exact ⟨by first | rfl | (simp [errW_none, errW_some] <;> rfl) | (simp only [← hji12]; first | rfl | (simp [errW_none, errW_some] <;> rfl)) | (simp [*, errW_none, errW_some] <;> rfl), by repeat (first | (with_reducible first | exact HI0.out | apply IsS76.alloc | apply IsS76.drewN | apply IsS76.drew | apply IsS76.set_0 | apply IsS76.set_1 | apply IsS76.set_2) | exact HI0.out), by repeat (first | (with_reducible first | exact HB.out | apply below_alloc | apply pw_below_drewN | apply below_drew1 | refine below_set ?_ (IsS76.ge HI0.out)) | exact HB.out), by repeat (first | (with_reducible first | exact HK.out | apply KeepBut.set_ | apply keep_drewN | apply keep_drew | apply keep_alloc) | exact HK.out)⟩
          ·replace c19 := Bool.eq_false_iff.mpr c19
           subst c19
           have H1 : (if 0 ≤ (wrap64 (7 * x4_1)) then (if (bt xA_1 (ji12)) < 128 then (if (bt xA_1 (ji12)) = 0 then (if x4_1 > 0 then ((varint_Reader_spoil.f xA_1 xB_1 xC_1).bind fun btE => (some (0, btE.1, btE.2.1, btE.2.2))) else (some (Go.bits .xor .i64 (wrap64 ((Go.bits .or .u64 x3_1 (shl .u64 (IntKind.u64.wrap (Go.bits .andNot .u8 (bt xA_1 (ji12)) 128)) (wrap64 (7 * x4_1)))) / 2)) (wrap64 (-(wrap64 (Go.bits .and .u64 (Go.bits .or .u64 x3_1 (shl .u64 (IntKind.u64.wrap (Go.bits .andNot .u8 (bt xA_1 (ji12)) 128)) (wrap64 (7 * x4_1)))) 1)))), xA_1, wrap64 (xB_1 + (wrap64 (x4_1 + 1))), xC_1))) else (some (Go.bits .xor .i64 (wrap64 ((Go.bits .or .u64 x3_1 (shl .u64 (IntKind.u64.wrap (Go.bits .andNot .u8 (bt xA_1 (ji12)) 128)) (wrap64 (7 * x4_1)))) / 2)) (wrap64 (-(wrap64 (Go.bits .and .u64 (Go.bits .or .u64 x3_1 (shl .u64 (IntKind.u64.wrap (Go.bits .andNot .u8 (bt xA_1 (ji12)) 128)) (wrap64 (7 * x4_1)))) 1)))), xA_1, wrap64 (xB_1 + (wrap64 (x4_1 + 1))), xC_1))) else (varint_Reader_Num.l0 kj15 (Go.bits .or .u64 x3_1 (shl .u64 (IntKind.u64.wrap (Go.bits .andNot .u8 (bt xA_1 (ji12)) 128)) (wrap64 (7 * x4_1)))) (wrap64 (x4_1 + 1)) xA_1 xB_1 xC_1)) else (none)) = some (r1, r2, r3, r4) := by rw [if_neg (show ¬ (false = true) by decide)] at H; exact H
           clear H
           have H := H1
           clear H1
           obtain ⟨ji22, hji22⟩ : ∃ j_ : Int, (wrap64 (7 * x4_1)) = j_ := ⟨_, rfl⟩
           replace H : (if 0 ≤ (ji22) then (if (bt xA_1 (ji12)) < 128 then (if (bt xA_1 (ji12)) = 0 then (if x4_1 > 0 then ((varint_Reader_spoil.f xA_1 xB_1 xC_1).bind fun btE => (some (0, btE.1, btE.2.1, btE.2.2))) else (some (Go.bits .xor .i64 (wrap64 ((Go.bits .or .u64 x3_1 (shl .u64 (IntKind.u64.wrap (Go.bits .andNot .u8 (bt xA_1 (ji12)) 128)) (ji22))) / 2)) (wrap64 (-(wrap64 (Go.bits .and .u64 (Go.bits .or .u64 x3_1 (shl .u64 (IntKind.u64.wrap (Go.bits .andNot .u8 (bt xA_1 (ji12)) 128)) (ji22))) 1)))), xA_1, wrap64 (xB_1 + (wrap64 (x4_1 + 1))), xC_1))) else (some (Go.bits .xor .i64 (wrap64 ((Go.bits .or .u64 x3_1 (shl .u64 (IntKind.u64.wrap (Go.bits .andNot .u8 (bt xA_1 (ji12)) 128)) (ji22))) / 2)) (wrap64 (-(wrap64 (Go.bits .and .u64 (Go.bits .or .u64 x3_1 (shl .u64 (IntKind.u64.wrap (Go.bits .andNot .u8 (bt xA_1 (ji12)) 128)) (ji22))) 1)))), xA_1, wrap64 (xB_1 + (wrap64 (x4_1 + 1))), xC_1))) else (varint_Reader_Num.l0 kj15 (Go.bits .or .u64 x3_1 (shl .u64 (IntKind.u64.wrap (Go.bits .andNot .u8 (bt xA_1 (ji12)) 128)) (ji22))) (wrap64 (x4_1 + 1)) xA_1 xB_1 xC_1)) else (none)) = some (r1, r2, r3, r4) := by first | (rw [hji22] at H; exact H) | (simp only [hji22] at H ⊢; exact H)
           have hji22w : (IntKind.i64.wrap (7 * x4_1)) = ji22 := (i64_w _).trans hji22
           (try rw [hji22] at hji12)
           (try rw [hji22] at hji12w)
           by_cases c23 : 0 ≤ (ji22)
           ·rw [if_pos c23] at H
            have c23b0 := eq_true c23
            have c23b1 : decide (0 ≤ (ji22)) = true := decide_eq_true c23
            clear c23
            obtain ⟨ji24, hji24⟩ : ∃ j_ : Int, (shl .u64 (IntKind.u64.wrap (Go.bits .andNot .u8 (bt xA_1 (ji12)) 128)) (ji22)) = j_ := ⟨_, rfl⟩
            replace H : (if (bt xA_1 (ji12)) < 128 then (if (bt xA_1 (ji12)) = 0 then (if x4_1 > 0 then ((varint_Reader_spoil.f xA_1 xB_1 xC_1).bind fun btE => (some (0, btE.1, btE.2.1, btE.2.2))) else (some (Go.bits .xor .i64 (wrap64 ((Go.bits .or .u64 x3_1 (ji24)) / 2)) (wrap64 (-(wrap64 (Go.bits .and .u64 (Go.bits .or .u64 x3_1 (ji24)) 1)))), xA_1, wrap64 (xB_1 + (wrap64 (x4_1 + 1))), xC_1))) else (some (Go.bits .xor .i64 (wrap64 ((Go.bits .or .u64 x3_1 (ji24)) / 2)) (wrap64 (-(wrap64 (Go.bits .and .u64 (Go.bits .or .u64 x3_1 (ji24)) 1)))), xA_1, wrap64 (xB_1 + (wrap64 (x4_1 + 1))), xC_1))) else (varint_Reader_Num.l0 kj15 (Go.bits .or .u64 x3_1 (ji24)) (wrap64 (x4_1 + 1)) xA_1 xB_1 xC_1)) = some (r1, r2, r3, r4) := by first | (rw [hji24] at H; exact H) | (simp only [hji24] at H ⊢; exact H)
            have hji24_ : (IntKind.u64.wrap ((IntKind.u64.wrap (Go.bits .andNot .u8 (bt xA_1 (ji12)) 128)) * 2 ^ min (ji22).toNat 64)) = ji24 := hji24
            have hji24z : (ji22) ≤ 64 → (IntKind.u64.wrap ((IntKind.u64.wrap (Go.bits .andNot .u8 (bt xA_1 (ji12)) 128)) * 2 ^ (ji22).toNat)) = ji24 := shl_small hji24
            by_cases c25 : (bt xA_1 (ji12)) < 128
            ·rw [if_pos c25] at H
             have c25b0 : decide ((bt xA_1 (ji12)) < 128) = true := decide_eq_true c25
             clear c25
             by_cases c26 : (bt xA_1 (ji12)) = 0
             ·rw [if_pos c26] at H
              have c26b0 : ((bt xA_1 (ji12)) == 0) = true := beq_iff_eq.mpr c26
              have c26b1 : ((bt xA_1 (ji12)) != 0) = false := bne_eq_false_iff_eq.mpr c26
              clear c26
              by_cases c27 : x4_1 > 0
              ·rw [if_pos c27] at H
               have c27b0 : decide (0 < x4_1) = true := decide_eq_true c27
               clear c27
               replace H := Option.bind_eq_some_iff.mp H
               obtain ⟨⟨tE, tM, tN⟩, AR, H⟩ := H
               replace H : (some (0, tE, tM, tN)) = some (r1, r2, r3, r4) := H
               have A28 := Aside0.mk AR
               clear AR
               simp only [Option.some.injEq, Prod.mk.injEq] at H
               obtain ⟨rfl, rfl, rfl, rfl⟩ := H
               go_wp2_with (first | (go_at_call 51; (with_reducible refine (varint_Reader_spoil.calls g xA_1 xB_1 xC_1 tE tM tN w0 _ ?side1 ?side2 A28.out).mono ?_); (case side1 => repeat (first | (with_reducible first | exact HI0.out | apply IsS76.alloc | apply IsS76.drewN | apply IsS76.drew | apply IsS76.set_0 | apply IsS76.set_1 | apply IsS76.set_2) | exact HI0.out)); (case side2 => repeat (first | (with_reducible first | exact HB.out | apply below_alloc | apply pw_below_drewN | apply below_drew1 | refine below_set ?_ (IsS76.ge HI0.out)) | exact HB.out)); rintro e w29 ⟨rfl, hi, hb, hk⟩; have n0_ := Aside0.mk (KeepBut.trans (by repeat (first | (with_reducible first | exact HK.out | apply KeepBut.set_ | apply keep_drewN | apply keep_drew | apply keep_alloc) | exact HK.out)) hk (.inl rfl)); have n1_ := Aside0.mk (hb); have n2_ := Aside0.mk (hi); clear HK; clear HB; clear HI0; have HK := n0_; have HB := n1_; have HI0 := n2_; clear n0_ n1_ n2_; (try clear hb); (try clear hb2); (try clear hk); (try clear hi); (try clear hge)))
               repeat (go_quiet (first | (go_at_call 51; (with_reducible refine (varint_Reader_spoil.calls g xA_1 xB_1 xC_1 tE tM tN w0 _ ?side1 ?side2 A28.out).mono ?_); (case side1 => repeat (first | (with_reducible first | exact HI0.out | apply IsS76.alloc | apply IsS76.drewN | apply IsS76.drew | apply IsS76.set_0 | apply IsS76.set_1 | apply IsS76.set_2) | exact HI0.out)); (case side2 => repeat (first | (with_reducible first | exact HB.out | apply below_alloc | apply pw_below_drewN | apply below_drew1 | refine below_set ?_ (IsS76.ge HI0.out)) | exact HB.out)); rintro e w29 ⟨rfl, hi, hb, hk⟩; have n0_ := Aside0.mk (KeepBut.trans (by repeat (first | (with_reducible first | exact HK.out | apply KeepBut.set_ | apply keep_drewN | apply keep_drew | apply keep_alloc) | exact HK.out)) hk (.inl rfl)); have n1_ := Aside0.mk (hb); have n2_ := Aside0.mk (hi); clear HK; clear HB; clear HI0; have HK := n0_; have HB := n1_; have HI0 := n2_; clear n0_ n1_ n2_; (try clear hb); (try clear hb2); (try clear hk); (try clear hi); (try clear hge))); try go_wp2_with fail)
               go_ret
               exact ⟨by first | rfl | (simp [errW_none, errW_some] <;> rfl) | (simp only [← hji12, ← hji22, ← hji24]; first | rfl | (simp [errW_none, errW_some] <;> rfl)) | (simp [*, errW_none, errW_some] <;> rfl), by repeat (first | (with_reducible first | exact HI0.out | apply IsS76.alloc | apply IsS76.drewN | apply IsS76.drew | apply IsS76.set_0 | apply IsS76.set_1 | apply IsS76.set_2) | exact HI0.out), by repeat (first | (with_reducible first | exact HB.out | apply below_alloc | apply pw_below_drewN | apply below_drew1 | refine below_set ?_ (IsS76.ge HI0.out)) | exact HB.out), by repeat (first | (with_reducible first | exact HK.out | apply KeepBut.set_ | apply keep_drewN | apply keep_drew | apply keep_alloc) | exact HK.out)⟩
              ·rw [if_neg c27] at H
               have c27b0 : decide (0 < x4_1) = false := decide_eq_false c27
               clear c27
               simp only [Option.some.injEq, Prod.mk.injEq] at H
               obtain ⟨rfl, rfl, rfl, rfl⟩ := H
               obtain ⟨HGz30, hgz30⟩ := HI0.out
               have hcz30_0 := cellS76_0 HGz30
               have hcz30_1 := cellS76_1 HGz30
               have hcz30_2 := cellS76_2 HGz30
               have hfz30_0 := blk_frozen HGz30 0
               have hfz30_1 := blk_frozen HGz30 1
               have hfz30_2 := blk_frozen HGz30 2
               clear HGz30 hgz30
               go_wp2
               repeat (go_quiet (fail); try go_wp2)
               go_ret
               exact ⟨by first | rfl | (simp [errW_none, errW_some] <;> rfl) | (simp only [← hji12, ← hji22, ← hji24]; first | rfl | (simp [errW_none, errW_some] <;> rfl)) | (simp [*, errW_none, errW_some] <;> rfl), by repeat (first | (with_reducible first | exact HI0.out | apply IsS76.alloc | apply IsS76.drewN | apply IsS76.drew | apply IsS76.set_0 | apply IsS76.set_1 | apply IsS76.set_2) | exact HI0.out), by repeat (first | (with_reducible first | exact HB.out | apply below_alloc | apply pw_below_drewN | apply below_drew1 | refine below_set ?_ (IsS76.ge HI0.out)) | exact HB.out), by repeat (first | (with_reducible first | exact HK.out | apply KeepBut.set_ | apply keep_drewN | apply keep_drew | apply keep_alloc) | exact HK.out)⟩
             ·rw [if_neg c26] at H
              have c26b0 : ((bt xA_1 (ji12)) == 0) = false := beq_eq_false_iff_ne.mpr c26
              have c26b1 : ((bt xA_1 (ji12)) != 0) = true := bne_iff_ne.mpr c26
              simp only [Option.some.injEq, Prod.mk.injEq] at H
              obtain ⟨rfl, rfl, rfl, rfl⟩ := H
              obtain ⟨HGz31, hgz31⟩ := HI0.out
              have hcz31_0 := cellS76_0 HGz31
              have hcz31_1 := cellS76_1 HGz31
              have hcz31_2 := cellS76_2 HGz31
              have hfz31_0 := blk_frozen HGz31 0
              have hfz31_1 := blk_frozen HGz31 1
              have hfz31_2 := blk_frozen HGz31 2
              clear HGz31 hgz31
              go_wp2
              repeat (go_quiet (fail); try go_wp2)
              go_ret
              exact ⟨by first | rfl | (simp [errW_none, errW_some] <;> rfl) | (simp only [← hji12, ← hji22, ← hji24]; first | rfl | (simp [errW_none, errW_some] <;> rfl)) | (simp [*, errW_none, errW_some] <;> rfl), by repeat (first | (with_reducible first | exact HI0.out | apply IsS76.alloc | apply IsS76.drewN | apply IsS76.drew | apply IsS76.set_0 | apply IsS76.set_1 | apply IsS76.set_2) | exact HI0.out), by repeat (first | (with_reducible first | exact HB.out | apply below_alloc | apply pw_below_drewN | apply below_drew1 | refine below_set ?_ (IsS76.ge HI0.out)) | exact HB.out), by repeat (first | (with_reducible first | exact HK.out | apply KeepBut.set_ | apply keep_drewN | apply keep_drew | apply keep_alloc) | exact HK.out)⟩
            ·rw [if_neg c25] at H
             have c25b0 : decide ((bt xA_1 (ji12)) < 128) = false := decide_eq_false c25
             clear c25
             have H' := Aside0.mk H
             clear H
             go_wp2
             repeat (go_quiet (fail); try go_wp2)
             go_roundg kj15
             case measure => have := HK1.out; have := HJ1.out; have := HJ15.out; omega
             case rel => exact ⟨(Go.bits .or .u64 x3_1 (ji24)), (wrap64 (x4_1 + 1)), (xA_1), (xB_1), (xC_1), (by first | rfl | (simp; done) | (simp only [← hji24] <;> (first | rfl | simp)) | (simp [*]; done)), (by first | rfl | (simp; done) | (simp [*]; done)), H', ⟨by have := HK1.out; have := HJ1.out; have := HJ15.out; omega⟩, ⟨by repeat (first | (with_reducible first | exact HI0.out | apply IsS76.alloc | apply IsS76.drewN | apply IsS76.drew | apply IsS76.set_0 | apply IsS76.set_1 | apply IsS76.set_2) | exact HI0.out)⟩, ⟨by repeat (first | (with_reducible first | exact HK.out | apply KeepBut.set_ | apply keep_drewN | apply keep_drew | apply keep_alloc) | exact HK.out)⟩, ⟨by repeat (first | (with_reducible first | exact HB.out | apply below_alloc | apply pw_below_drewN | apply below_drew1 | refine below_set ?_ (IsS76.ge HI0.out)) | exact HB.out)⟩⟩
           ·rw [if_neg c23] at H
            exact absurd H (by simp)
       ·rw [if_neg c14] at H
        exact absurd H (by simp)
      ·rw [if_neg c13] at H
       exact absurd H (by simp)
     ·replace c11 := Bool.eq_false_iff.mpr c11
      subst c11
      have H1 : ((varint_Reader_spoil.f xA_1 xB_1 xC_1).bind fun btF => (some (0, btF.1, btF.2.1, btF.2.2))) = some (r1, r2, r3, r4) := by rw [if_neg (show ¬ (false = true) by decide)] at H; exact H
      clear H
      have H := H1
      clear H1
      replace H := Option.bind_eq_some_iff.mp H
      obtain ⟨⟨tF, tO, tP⟩, AS, H⟩ := H
      replace H : (some (0, tF, tO, tP)) = some (r1, r2, r3, r4) := H
      have A32 := Aside0.mk AS
      clear AS
      simp only [Option.some.injEq, Prod.mk.injEq] at H
      obtain ⟨rfl, rfl, rfl, rfl⟩ := H
      go_wp2_with (first | (go_at_call 51; (with_reducible refine (varint_Reader_spoil.calls g xA_1 xB_1 xC_1 tF tO tP w0 _ ?side1 ?side2 A32.out).mono ?_); (case side1 => repeat (first | (with_reducible first | exact HI0.out | apply IsS76.alloc | apply IsS76.drewN | apply IsS76.drew | apply IsS76.set_0 | apply IsS76.set_1 | apply IsS76.set_2) | exact HI0.out)); (case side2 => repeat (first | (with_reducible first | exact HB.out | apply below_alloc | apply pw_below_drewN | apply below_drew1 | refine below_set ?_ (IsS76.ge HI0.out)) | exact HB.out)); rintro e w33 ⟨rfl, hi, hb, hk⟩; have n0_ := Aside0.mk (KeepBut.trans (by repeat (first | (with_reducible first | exact HK.out | apply KeepBut.set_ | apply keep_drewN | apply keep_drew | apply keep_alloc) | exact HK.out)) hk (.inl rfl)); have n1_ := Aside0.mk (hb); have n2_ := Aside0.mk (hi); clear HK; clear HB; clear HI0; have HK := n0_; have HB := n1_; have HI0 := n2_; clear n0_ n1_ n2_; (try clear hb); (try clear hb2); (try clear hk); (try clear hi); (try clear hge)))
      repeat (go_quiet (first | (go_at_call 51; (with_reducible refine (varint_Reader_spoil.calls g xA_1 xB_1 xC_1 tF tO tP w0 _ ?side1 ?side2 A32.out).mono ?_); (case side1 => repeat (first | (with_reducible first | exact HI0.out | apply IsS76.alloc | apply IsS76.drewN | apply IsS76.drew | apply IsS76.set_0 | apply IsS76.set_1 | apply IsS76.set_2) | exact HI0.out)); (case side2 => repeat (first | (with_reducible first | exact HB.out | apply below_alloc | apply pw_below_drewN | apply below_drew1 | refine below_set ?_ (IsS76.ge HI0.out)) | exact HB.out)); rintro e w33 ⟨rfl, hi, hb, hk⟩; have n0_ := Aside0.mk (KeepBut.trans (by repeat (first | (with_reducible first | exact HK.out | apply KeepBut.set_ | apply keep_drewN | apply keep_drew | apply keep_alloc) | exact HK.out)) hk (.inl rfl)); have n1_ := Aside0.mk (hb); have n2_ := Aside0.mk (hi); clear HK; clear HB; clear HI0; have HK := n0_; have HB := n1_; have HI0 := n2_; clear n0_ n1_ n2_; (try clear hb); (try clear hb2); (try clear hk); (try clear hi); (try clear hge))); try go_wp2_with fail)
      go_ret
      exact ⟨by first | rfl | (simp [errW_none, errW_some] <;> rfl) | (simp [*, errW_none, errW_some] <;> rfl), by repeat (first | (with_reducible first | exact HI0.out | apply IsS76.alloc | apply IsS76.drewN | apply IsS76.drew | apply IsS76.set_0 | apply IsS76.set_1 | apply IsS76.set_2) | exact HI0.out), by repeat (first | (with_reducible first | exact HB.out | apply below_alloc | apply pw_below_drewN | apply below_drew1 | refine below_set ?_ (IsS76.ge HI0.out)) | exact HB.out), by repeat (first | (with_reducible first | exact HK.out | apply KeepBut.set_ | apply keep_drewN | apply keep_drew | apply keep_alloc) | exact HK.out)⟩

end Go.Proofs.YtdgaancbeakfdaaDoor.Q
