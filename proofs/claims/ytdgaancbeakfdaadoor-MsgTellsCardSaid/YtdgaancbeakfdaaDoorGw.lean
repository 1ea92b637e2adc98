/- msg.Get: the walk. -/
import Derived.Test.YtdgaancbeakfdaaDoorGp
import Derived.Test.YtdgaancbeakfdaaDoorTk
import Derived.Laws.ResultCell
namespace Go.Proofs.YtdgaancbeakfdaaDoor.Gw
open Go.RowKit Go.Proofs.YtdgaancbeakfdaaDoorW.PrintWords Go.Proofs.YtdgaancbeakfdaaDoorW.PrintLast Go.Proofs.YtdgaancbeakfdaaDoor.Mo Go.Proofs.YtdgaancbeakfdaaDoor.Num Go.Proofs.YtdgaancbeakfdaaDoor.Vrd Go.Proofs.YtdgaancbeakfdaaDoor.Fth Go.Proofs.YtdgaancbeakfdaaDoor.Giv Go.Proofs.YtdgaancbeakfdaaDoor.Q Go.Proofs.YtdgaancbeakfdaaDoor.Rt Go.Proofs.YtdgaancbeakfdaaDoor.Pp Go.Proofs.YtdgaancbeakfdaaDoor.Gp Go.Proofs.YtdgaancbeakfdaaDoor.Tk
attribute [local go_sem] max2_int min2_int max_two min_two max_three min_three max_four min_four
set_option linter.unusedVariables false
set_option linter.unusedSimpArgs false
abbrev Msg0' : Obj := .cells #[.int .i64 0, .int .i64 0, .int .i64 0, .int .i64 0, .int .i64 0, .int .i64 0, .slice none 0 0] 24 (0, 0)
abbrev Msg0 : Obj := .cells #[.int .i64 0, .int .i64 0, .int .i64 0, .int .i64 0, .int .i64 0, .int .i64 0, .slice none 0 0] 24
theorem grownS (W : World) (o j : Nat) (v : Value) : W.grownBy (W.setCell ⟨o, j, none⟩ v) (some o) := ⟨rfl, rfl, rfl, by simp [World.setCell], fun k _ hk => Below.heap_setCell _ _ _ k (fun e => hk (by rw [e]))⟩
theorem put7 {w2 : World} {o t : Nat} {z0 z1 z2 z3 z4 z5 z6 : Value} (a0 a1 a2 a3 a4 a5 a6 : Value) (h : w2.heap[o]? = some (.cells #[z0, z1, z2, z3, z4, z5, z6] t (0, 0))) : (((((((w2.setCell ⟨o, 0, none⟩ a0).setCell ⟨o, 1, none⟩ a1).setCell ⟨o, 2, none⟩ a2).setCell ⟨o, 3, none⟩ a3).setCell ⟨o, 4, none⟩ a4).setCell ⟨o, 5, none⟩ a5).setCell ⟨o, 6, none⟩ a6).heap[o]? = some (.cells #[a0, a1, a2, a3, a4, a5, a6] t (0, 0)) ∧ w2.grownBy (((((((w2.setCell ⟨o, 0, none⟩ a0).setCell ⟨o, 1, none⟩ a1).setCell ⟨o, 2, none⟩ a2).setCell ⟨o, 3, none⟩ a3).setCell ⟨o, 4, none⟩ a4).setCell ⟨o, 5, none⟩ a5).setCell ⟨o, 6, none⟩ a6) (some o) := by
  have h0 : (w2.setCell ⟨o, 0, none⟩ a0).heap[o]? = some (.cells #[a0, z1, z2, z3, z4, z5, z6] t (0, 0)) := blk_put h 0 a0 rfl
  have g0 := grownS w2 o 0 a0
  generalize w2.setCell ⟨o, 0, none⟩ a0 = x0 at *
  have h1 : (x0.setCell ⟨o, 1, none⟩ a1).heap[o]? = some (.cells #[a0, a1, z2, z3, z4, z5, z6] t (0, 0)) := blk_put h0 1 a1 rfl
  have g1 := grownS x0 o 1 a1
  replace g1 := g0.trans g1
  generalize x0.setCell ⟨o, 1, none⟩ a1 = x1 at *
  have h2 : (x1.setCell ⟨o, 2, none⟩ a2).heap[o]? = some (.cells #[a0, a1, a2, z3, z4, z5, z6] t (0, 0)) := blk_put h1 2 a2 rfl
  have g2 := grownS x1 o 2 a2
  replace g2 := g1.trans g2
  generalize x1.setCell ⟨o, 2, none⟩ a2 = x2 at *
  have h3 : (x2.setCell ⟨o, 3, none⟩ a3).heap[o]? = some (.cells #[a0, a1, a2, a3, z4, z5, z6] t (0, 0)) := blk_put h2 3 a3 rfl
  have g3 := grownS x2 o 3 a3
  replace g3 := g2.trans g3
  generalize x2.setCell ⟨o, 3, none⟩ a3 = x3 at *
  have h4 : (x3.setCell ⟨o, 4, none⟩ a4).heap[o]? = some (.cells #[a0, a1, a2, a3, a4, z5, z6] t (0, 0)) := blk_put h3 4 a4 rfl
  have g4 := grownS x3 o 4 a4
  replace g4 := g3.trans g4
  generalize x3.setCell ⟨o, 4, none⟩ a4 = x4 at *
  have h5 : (x4.setCell ⟨o, 5, none⟩ a5).heap[o]? = some (.cells #[a0, a1, a2, a3, a4, a5, z6] t (0, 0)) := blk_put h4 5 a5 rfl
  have g5 := grownS x4 o 5 a5
  replace g5 := g4.trans g5
  generalize x4.setCell ⟨o, 5, none⟩ a5 = x5 at *
  have h6 : (x5.setCell ⟨o, 6, none⟩ a6).heap[o]? = some (.cells #[a0, a1, a2, a3, a4, a5, a6] t (0, 0)) := blk_put h5 6 a6 rfl
  have g6 := grownS x5 o 6 a6
  replace g6 := g5.trans g6
  generalize x5.setCell ⟨o, 6, none⟩ a6 = x6 at *
  exact ⟨h6, g6⟩
/-- what msg.Get gives -/
def GetPost (s : ByteArray) (w : World) (e : Ending) (w' : World) : Prop := ∃ v6 : Value, e = .returned (.tuple #[.agg #[.int .i64 (getS s).1, .int .i64 (getS s).2.1, .int .i64 (getS s).2.2.1, .int .i64 (getS s).2.2.2.1, .int .i64 (getS s).2.2.2.2.1, .int .i64 (getS s).2.2.2.2.2.1, v6], .int .i64 (getS s).2.2.2.2.2.2.2]) ∧ Kd.R k42 42 w' w.heap.size (fun _ => True) v6 (getS s).2.2.2.2.2.2.1 ∧ Below w.heap.size w w'
theorem get_no {s : ByteArray} (h : ¬ ((take s).2.2 = 0 ∧ (take s).2.1 = (s.size : Int) ∧ fine (take s).1 = true)) : getS s = (0, 0, 0, 0, 0, 0, [], 160) := if_neg h
theorem take_no (s : ByteArray) (w : World) (hs : s.size ≤ 4611686018427387904) (hh : ¬ ((take s).2.2 = 0 ∧ (take s).2.1 = (s.size : Int))) :
    Calls Tryd.prog 11 #[.string s] w (GetPost s w) := by
  have pn := get_no (s := s) (fun h => hh ⟨h.1, h.2.1⟩)
  have HA := below_alloc (Below.refl w.heap.size w) Msg0
  have hO := blk_new w Msg0
  have hT := Take_eq 6000 (Nat.le_refl _) s hs
  generalize take s = tk at *
  obtain ⟨p, u, e⟩ := tk
  replace hT := Aside0.mk hT
  replace pn := Aside0.mk pn
  replace hh : ¬ (e = 0 ∧ u = (s.size : Int)) := hh
  go_enter Tryd.func11, Tryd.ntmps11
  go_wp2_with fail
  refine (frame_Take.calls 6000 s p u e _ hT.out).mono ?_; rintro ee w1 ⟨rfl, hb1⟩
  have hO1 := blk_below hO hb1
  have HB1 := HA.trans (hb1.mono HA.size)
  have hlt := blk_lt hO1
  generalize hg : w.heap.size = g at *
  have o0 := (blk_cell hO1 0).trans rfl
  have o1 := (blk_cell hO1 1).trans rfl
  have o2 := (blk_cell hO1 2).trans rfl
  have o3 := (blk_cell hO1 3).trans rfl
  have o4 := (blk_cell hO1 4).trans rfl
  have o5 := (blk_cell hO1 5).trans rfl
  have o6 := (blk_cell hO1 6).trans rfl
  have p0 := blk_frozen hO1 0
  have p1 := blk_frozen hO1 1
  have p2 := blk_frozen hO1 2
  have p3 := blk_frozen hO1 3
  have p4 := blk_frozen hO1 4
  have p5 := blk_frozen hO1 5
  have p6 := blk_frozen hO1 6
  obtain ⟨hO7, hG7⟩ := put7 (.int .i64 0) (.int .i64 0) (.int .i64 0) (.int .i64 0) (.int .i64 0) (.int .i64 0) (.slice none 0 0) hO1
  have HB7 := HB1.grown hG7 (by omega) (fun k e => by injection e with e; omega)
  replace hG7 := Aside0.mk hG7
  clear hO hb1
  by_cases h1 : e = 0
  · have h2 : ¬ u = (s.size : Int) := fun h => hh ⟨h1, h⟩
    have b1 : (e != 0) = false := by simp [h1]
    have b2 : (u != (s.size : Int)) = true := bne_iff_ne.mpr h2
    clear h1 h2 hh
    go_wp2_with fail
    refine bodyPost_ret (results_ct rfl _ _ g 24 _ (0, 0) _ rfl hO7 Tryd.underlying24 rfl (by kernel_rfl)) rfl ?_
    unfold GetPost; rw [pn.out, hg]; exact ⟨_, rfl, Kd.R_nil _ _ _ _ _, HB7⟩
  · have b1 : (e != 0) = true := bne_iff_ne.mpr h1
    clear h1 hh
    go_wp2_with fail
    refine bodyPost_ret (results_ct rfl _ _ g 24 _ (0, 0) _ rfl hO7 Tryd.underlying24 rfl (by kernel_rfl)) rfl ?_
    unfold GetPost; rw [pn.out, hg]; exact ⟨_, rfl, Kd.R_nil _ _ _ _ _, HB7⟩

/-- the message's cells behind i numbers -/
def mc (p : ByteArray) (i : Nat) : Array Value := #[.int .i64 (if 0 < i then rdV p (0, false) 0 else 0), .int .i64 (if 1 < i then rdV p (0, false) 1 else 0), .int .i64 (if 2 < i then rdV p (0, false) 2 else 0), .int .i64 (if 3 < i then rdV p (0, false) 3 else 0), .int .i64 (if 4 < i then rdV p (0, false) 4 else 0), .int .i64 (if 5 < i then rdV p (0, false) 5 else 0), .slice none 0 0]
def mt (m n : Nat) (i : Nat) : Nat × Nat := if i < 6 then (m, i) else (n, 0)
/-- what stands while the numbers are taken up -/
def Sev (p : ByteArray) (o m n : Nat) (i : Nat) (W : World) : Prop := W.heap[m]? = some (.cells (mc p i) 24 (0, 0)) ∧ W.heap[n]? = some (.cells #[.int .i64 (if 6 < i then rdV p (0, false) 6 else 0)] 3 (0, 0)) ∧ W.heap[o]? = some Msg0'
theorem Sev.cell {p : ByteArray} {o m n i : Nat} {W : World} (h : Sev p o m n i W) (hi : i < 7) : (∃ v, W.cell? ⟨(mt m n i).1, (mt m n i).2, none⟩ = some v) ∧ W.frozen? ⟨(mt m n i).1, (mt m n i).2, none⟩ = false := by
  obtain ⟨h1, h2, _⟩ := h
  rcases (show i = 0 ∨ i = 1 ∨ i = 2 ∨ i = 3 ∨ i = 4 ∨ i = 5 ∨ i = 6 from by omega) with rfl | rfl | rfl | rfl | rfl | rfl | rfl
  · exact ⟨⟨_, (blk_cell h1 0).trans rfl⟩, blk_frozen h1 0⟩
  · exact ⟨⟨_, (blk_cell h1 1).trans rfl⟩, blk_frozen h1 1⟩
  · exact ⟨⟨_, (blk_cell h1 2).trans rfl⟩, blk_frozen h1 2⟩
  · exact ⟨⟨_, (blk_cell h1 3).trans rfl⟩, blk_frozen h1 3⟩
  · exact ⟨⟨_, (blk_cell h1 4).trans rfl⟩, blk_frozen h1 4⟩
  · exact ⟨⟨_, (blk_cell h1 5).trans rfl⟩, blk_frozen h1 5⟩
  · exact ⟨⟨_, (blk_cell h2 0).trans rfl⟩, blk_frozen h2 0⟩
theorem Sev.set {p : ByteArray} {o m n i : Nat} {W : World} (h : Sev p o m n i W) (hi : i < 7) (hmn : m ≠ n) (hom : o ≠ m) (hon : o ≠ n) : Sev p o m n (i + 1) (W.setCell ⟨(mt m n i).1, (mt m n i).2, none⟩ (.int .i64 (rdV p (0, false) i))) := by
  obtain ⟨h1, h2, h3⟩ := h
  rcases (show i = 0 ∨ i = 1 ∨ i = 2 ∨ i = 3 ∨ i = 4 ∨ i = 5 ∨ i = 6 from by omega) with rfl | rfl | rfl | rfl | rfl | rfl | rfl
  · exact ⟨blk_put h1 0 _ rfl, blk_far (p := ⟨m, 0, none⟩) h2 (Ne.symm hmn) _, blk_far (p := ⟨m, 0, none⟩) h3 hom _⟩
  · exact ⟨blk_put h1 1 _ rfl, blk_far (p := ⟨m, 1, none⟩) h2 (Ne.symm hmn) _, blk_far (p := ⟨m, 1, none⟩) h3 hom _⟩
  · exact ⟨blk_put h1 2 _ rfl, blk_far (p := ⟨m, 2, none⟩) h2 (Ne.symm hmn) _, blk_far (p := ⟨m, 2, none⟩) h3 hom _⟩
  · exact ⟨blk_put h1 3 _ rfl, blk_far (p := ⟨m, 3, none⟩) h2 (Ne.symm hmn) _, blk_far (p := ⟨m, 3, none⟩) h3 hom _⟩
  · exact ⟨blk_put h1 4 _ rfl, blk_far (p := ⟨m, 4, none⟩) h2 (Ne.symm hmn) _, blk_far (p := ⟨m, 4, none⟩) h3 hom _⟩
  · exact ⟨blk_put h1 5 _ rfl, blk_far (p := ⟨m, 5, none⟩) h2 (Ne.symm hmn) _, blk_far (p := ⟨m, 5, none⟩) h3 hom _⟩
  · exact ⟨blk_far (p := ⟨n, 0, none⟩) h1 hmn _, blk_put h2 0 _ rfl, blk_far (p := ⟨n, 0, none⟩) h3 hon _⟩
/-- what stands beside the reader, binds among it -/
def Rest (w0 : World) (o m n : Nat) (a0 a1 a2 a3 a4 a5 many : Int) (ok : Nat → Prop) (BB : Option Addr) (cap : Nat) (acc : List S42) (W : World) : Prop :=
  W.heap[m]? = some (.cells #[.int .i64 a0, .int .i64 a1, .int .i64 a2, .int .i64 a3, .int .i64 a4, .int .i64 a5, .slice BB acc.length cap] 24 (0, 0)) ∧ W.heap[n]? = some (.cells #[.int .i64 many] 3 (0, 0)) ∧ W.heap[o]? = some Msg0' ∧ Kd.R k42 42 W w0.heap.size ok (.slice BB acc.length cap) acc
section
variable {w0 W W1 : World} {o m n : Nat} {a0 a1 a2 a3 a4 a5 many : Int} {ok : Nat → Prop} {BB : Option Addr} {cap : Nat} {acc : List S42}
theorem Rest.below (h : Rest w0 o m n a0 a1 a2 a3 a4 a5 many ok BB cap acc W) (hb : Below W.heap.size W W1) : Rest w0 o m n a0 a1 a2 a3 a4 a5 many ok BB cap acc W1 :=
  ⟨blk_below h.1 hb, blk_below h.2.1 hb, blk_below h.2.2.1 hb, Kd.R_below h.2.2.2 hb⟩
theorem bE : ∀ q, q ∈ 42 :: k42.E → q = 42 := fun q hq => by simpa [k42, Kd.iso, Kd.pair, Kd.string, Kd.int, Kd.scalar] using hq
theorem Rest.keep (h : Rest w0 o m n a0 a1 a2 a3 a4 a5 many ok BB cap acc W) {g : Nat} {s : ByteArray} {a : Int} {b : Bool} (hI : IsS76 w0 W g s a b) (hk : KeepBut W W1 g none) : Rest w0 o m n a0 a1 a2 a3 a4 a5 many ok BB cap acc W1 := by
  have ne : ∀ {k : Nat} {t : TypeId} {cs : Array Value}, W.heap[k]? = some (.cells cs t (0, 0)) → t ≠ 76 → W1.heap[k]? = some (.cells cs t (0, 0)) := fun hk' ht => (hk.2 _ (blk_lt hk') (fun e => hI.ne_blk hk' ht e.symm) (by simp)).trans hk'
  exact ⟨ne h.1 (by decide), ne h.2.1 (by decide), ne h.2.2.1 (by decide), Kd.R_mono (Kd.R_keep (Kd.R_types h.2.2.2 hI.1 (fun q hq => by rw [bE q hq]; decide)) hk (fun k hk => hk.2)) (fun _ hk => hk.1)⟩
/-- a store into a block that none of the rows is -/
theorem Rest.far (h : Rest w0 o m n a0 a1 a2 a3 a4 a5 many ok BB cap acc W) {q : Addr} (h1 : m ≠ q.block) (h2 : n ≠ q.block) (h3 : o ≠ q.block) (hok : ∀ k, ok k → k ≠ q.block) (v : Value) : Rest w0 o m n a0 a1 a2 a3 a4 a5 many ok BB cap acc (W.setCell q v) :=
  ⟨blk_far h.1 h1 v, blk_far h.2.1 h2 v, blk_far h.2.2.1 h3 v, Kd.R_far h.2.2.2 hok v⟩
theorem Rest.mono {ok' : Nat → Prop} (h : Rest w0 o m n a0 a1 a2 a3 a4 a5 many ok BB cap acc W) (hok : ∀ k, ok k → ok' k) : Rest w0 o m n a0 a1 a2 a3 a4 a5 many ok' BB cap acc W := ⟨h.1, h.2.1, h.2.2.1, Kd.R_mono h.2.2.2 hok⟩
theorem Rest.bound (h : Rest w0 o m n a0 a1 a2 a3 a4 a5 many ok BB cap acc W) : Rest w0 o m n a0 a1 a2 a3 a4 a5 many (fun k => k < W.heap.size) BB cap acc W := ⟨h.1, h.2.1, h.2.2.1, Kd.R_mono (Kd.R_bound h.2.2.2) (fun k hk => hk.2.2.1)⟩
theorem Rest.away (h : Rest w0 o m n a0 a1 a2 a3 a4 a5 many ok BB cap acc W) {k : Nat} {t : TypeId} {cs : Array Value} (hb : W.heap[k]? = some (.cells cs t (0, 0))) (ht : 42 ≠ t) : some k ≠ (Value.slice BB acc.length cap).ownBlock :=
  Kd.R_away (Kd.R_types h.2.2.2 hb (fun q hq => by rw [bE q hq]; exact ht)) (fun k hk => hk.2)
/-- a bind more -/
theorem Rest.app (h : Rest w0 o m n a0 a1 a2 a3 a4 a5 many ok BB cap acc W) (hmn : m ≠ n) (hmo : m ≠ o) {BB' : Option Addr} {cap' : Nat} {acc' : List S42} {ok' : Nat → Prop} (hR : Kd.R k42 42 W1 w0.heap.size ok' (.slice BB' acc'.length cap') acc') (hg : W.grownBy W1 (Value.slice BB acc.length cap).ownBlock) : Rest w0 o m n a0 a1 a2 a3 a4 a5 many (fun _ => True) BB' cap' acc' (W1.setCell ⟨m, 6, none⟩ (.slice BB' acc'.length cap')) := by
  have g1 := (hg.block m (blk_lt h.1) (h.away h.1 (by decide))).trans h.1
  have g2 := (hg.block n (blk_lt h.2.1) (h.away h.2.1 (by decide))).trans h.2.1
  have g3 := (hg.block o (blk_lt h.2.2.1) (h.away h.2.2.1 (by decide))).trans h.2.2.1
  exact ⟨blk_put g1 6 _ rfl, blk_far (p := ⟨m, 6, none⟩) g2 (Ne.symm hmn) _, blk_far (p := ⟨m, 6, none⟩) g3 (Ne.symm hmo) _, Kd.R_mono (Kd.R_far (Kd.R_types hR g1 (fun q hq => by rw [bE q hq]; decide)) (p := ⟨m, 6, none⟩) (fun k hk => hk.2) _) (fun _ _ => trivial)⟩
end
theorem k42_mkM (w : World) (base : Nat) (ok : Nat → Prop) (x y : ByteArray) (z : Int) : k42.M w base ok ⟨x, y, z⟩ [.string x, .string y, .int .i64 z] := ⟨[_], _, rfl, rfl, ⟨[_], _, rfl, rfl, rfl⟩⟩
theorem info42 : (Tryd.prog.info? 42).map (fun i => (i.zero, i.size, i.bytes)) = some (some (.agg #[.string ⟨#[]⟩, .string ⟨#[]⟩, .int .i64 0]), k42.sz, 40) := by kernel_rfl
set_option maxHeartbeats 16000000 in
set_option maxRecDepth 100000 in
theorem take_yes (s : ByteArray) (w : World) (hs : s.size ≤ 4611686018427387904) (h0 : (take s).2.2 = 0) (hu : (take s).2.1 = (s.size : Int)) :
    Calls Tryd.prog 11 #[.string s] w (GetPost s w) := by
  have hps := take_small s hs
  have pn : fine (take s).1 = false → getS s = (0, 0, 0, 0, 0, 0, [], 160) := fun h => get_no (fun hh => by rw [hh.2.2] at h; cases h)
  have py : fine (take s).1 = true → getS s = (rdV (take s).1 (0, false) 0, rdV (take s).1 (0, false) 1, rdV (take s).1 (0, false) 2, rdV (take s).1 (0, false) 3, rdV (take s).1 (0, false) 4, rdV (take s).1 (0, false) 5, (inside (take s).1).1, 0) := fun h => if_pos ⟨h0, hu, h⟩
  have HA := below_alloc (Below.refl w.heap.size w) Msg0
  have hO := blk_new w Msg0
  have hT := Take_eq 6000 (Nat.le_refl _) s hs
  generalize take s = tk at *
  obtain ⟨p, u, e⟩ := tk
  replace h0 : e = 0 := h0
  replace hu : u = (s.size : Int) := hu
  subst h0
  subst hu
  replace hps : p.size ≤ 4096 := hps
  replace hT := Aside0.mk hT
  replace pn := Aside0.mk pn
  replace py := Aside0.mk py
  go_enter Tryd.func11, Tryd.ntmps11
  go_wp2_with fail
  refine (frame_Take.calls 6000 s p (s.size : Int) 0 _ hT.out).mono ?_; rintro ee w1 ⟨rfl, hb1⟩
  have hO1 := blk_below hO hb1
  have HB1 := HA.trans (hb1.mono HA.size)
  clear hO hb1 HA hT
  go_wp2_with fail
  refine (varint_New.calls p p 0 false w w1 HB1 rfl).mono ?_; rintro ee w2 ⟨gr, rfl, hI2, HB2, hb2, hge2⟩
  have hO2 := blk_below hO1 hb2
  have hgr2 := hI2.lt
  have hgo := hI2.ne_blk hO2 (by decide)
  have hlo := blk_lt hO2
  clear hO1 HB1 hb2 hge2
  go_wp2_with fail
  have hle := HB2.size
  have hm0 := blk_alloc (blk_alloc (blk_new w2 Msg0) (.cells #[.int .i64 0] 3)) (.cells #[.pointer (some ⟨w2.heap.size, 0, none⟩), .pointer (some ⟨w2.heap.size, 1, none⟩), .pointer (some ⟨w2.heap.size, 2, none⟩), .pointer (some ⟨w2.heap.size, 3, none⟩), .pointer (some ⟨w2.heap.size, 4, none⟩), .pointer (some ⟨w2.heap.size, 5, none⟩), .pointer (some ⟨w2.heap.size + 1, 0, none⟩)] 63)
  have hn0 := blk_alloc (blk_new (w2.alloc Msg0) (.cells #[.int .i64 0] 3)) (.cells #[.pointer (some ⟨w2.heap.size, 0, none⟩), .pointer (some ⟨w2.heap.size, 1, none⟩), .pointer (some ⟨w2.heap.size, 2, none⟩), .pointer (some ⟨w2.heap.size, 3, none⟩), .pointer (some ⟨w2.heap.size, 4, none⟩), .pointer (some ⟨w2.heap.size, 5, none⟩), .pointer (some ⟨w2.heap.size + 1, 0, none⟩)] 63)
  have ha0 := blk_new ((w2.alloc Msg0).alloc (.cells #[.int .i64 0] 3)) (.cells #[.pointer (some ⟨w2.heap.size, 0, none⟩), .pointer (some ⟨w2.heap.size, 1, none⟩), .pointer (some ⟨w2.heap.size, 2, none⟩), .pointer (some ⟨w2.heap.size, 3, none⟩), .pointer (some ⟨w2.heap.size, 4, none⟩), .pointer (some ⟨w2.heap.size, 5, none⟩), .pointer (some ⟨w2.heap.size + 1, 0, none⟩)] 63)
  have ho0 := blk_alloc (blk_alloc (blk_alloc hO2 Msg0) (.cells #[.int .i64 0] 3)) (.cells #[.pointer (some ⟨w2.heap.size, 0, none⟩), .pointer (some ⟨w2.heap.size, 1, none⟩), .pointer (some ⟨w2.heap.size, 2, none⟩), .pointer (some ⟨w2.heap.size, 3, none⟩), .pointer (some ⟨w2.heap.size, 4, none⟩), .pointer (some ⟨w2.heap.size, 5, none⟩), .pointer (some ⟨w2.heap.size + 1, 0, none⟩)] 63)
  have hI3 := ((hI2.alloc Msg0).alloc (.cells #[.int .i64 0] 3)).alloc (.cells #[.pointer (some ⟨w2.heap.size, 0, none⟩), .pointer (some ⟨w2.heap.size, 1, none⟩), .pointer (some ⟨w2.heap.size, 2, none⟩), .pointer (some ⟨w2.heap.size, 3, none⟩), .pointer (some ⟨w2.heap.size, 4, none⟩), .pointer (some ⟨w2.heap.size, 5, none⟩), .pointer (some ⟨w2.heap.size + 1, 0, none⟩)] 63)
  have HB3 := below_alloc (below_alloc (below_alloc HB2 Msg0) (.cells #[.int .i64 0] 3)) (.cells #[.pointer (some ⟨w2.heap.size, 0, none⟩), .pointer (some ⟨w2.heap.size, 1, none⟩), .pointer (some ⟨w2.heap.size, 2, none⟩), .pointer (some ⟨w2.heap.size, 3, none⟩), .pointer (some ⟨w2.heap.size, 4, none⟩), .pointer (some ⟨w2.heap.size, 5, none⟩), .pointer (some ⟨w2.heap.size + 1, 0, none⟩)] 63)
  have hn0 : (((w2.alloc Msg0).alloc (.cells #[.int .i64 0] 3)).alloc (.cells #[.pointer (some ⟨w2.heap.size, 0, none⟩), .pointer (some ⟨w2.heap.size, 1, none⟩), .pointer (some ⟨w2.heap.size, 2, none⟩), .pointer (some ⟨w2.heap.size, 3, none⟩), .pointer (some ⟨w2.heap.size, 4, none⟩), .pointer (some ⟨w2.heap.size, 5, none⟩), .pointer (some ⟨w2.heap.size + 1, 0, none⟩)] 63)).heap[w2.heap.size + 1]? = some (.cells #[.int .i64 0] 3 (0, 0)) := by simpa using hn0
  have ha0 : (((w2.alloc Msg0).alloc (.cells #[.int .i64 0] 3)).alloc (.cells #[.pointer (some ⟨w2.heap.size, 0, none⟩), .pointer (some ⟨w2.heap.size, 1, none⟩), .pointer (some ⟨w2.heap.size, 2, none⟩), .pointer (some ⟨w2.heap.size, 3, none⟩), .pointer (some ⟨w2.heap.size, 4, none⟩), .pointer (some ⟨w2.heap.size, 5, none⟩), .pointer (some ⟨w2.heap.size + 1, 0, none⟩)] 63)).heap[w2.heap.size + 1 + 1]? = some (.cells #[.pointer (some ⟨w2.heap.size, 0, none⟩), .pointer (some ⟨w2.heap.size, 1, none⟩), .pointer (some ⟨w2.heap.size, 2, none⟩), .pointer (some ⟨w2.heap.size, 3, none⟩), .pointer (some ⟨w2.heap.size, 4, none⟩), .pointer (some ⟨w2.heap.size, 5, none⟩), .pointer (some ⟨w2.heap.size + 1, 0, none⟩)] 63 (0, 0)) := by simpa using ha0
  clear hO2 hI2 HB2
  revert hm0 hn0 ha0 ho0 hI3 HB3
  generalize (((w2.alloc Msg0).alloc (.cells #[.int .i64 0] 3)).alloc (.cells #[.pointer (some ⟨w2.heap.size, 0, none⟩), .pointer (some ⟨w2.heap.size, 1, none⟩), .pointer (some ⟨w2.heap.size, 2, none⟩), .pointer (some ⟨w2.heap.size, 3, none⟩), .pointer (some ⟨w2.heap.size, 4, none⟩), .pointer (some ⟨w2.heap.size, 5, none⟩), .pointer (some ⟨w2.heap.size + 1, 0, none⟩)] 63)) = wa
  generalize w2.heap.size = m at *
  intro hm0 ho0 hI3 HB3 hn0 ha0
  have hPt : PtrsAt wa (m + 1 + 1) 7 (mt m (m + 1)) := ⟨_, ha0, fun i hi => by
    rcases (show i = 0 ∨ i = 1 ∨ i = 2 ∨ i = 3 ∨ i = 4 ∨ i = 5 ∨ i = 6 from by omega) with rfl | rfl | rfl | rfl | rfl | rfl | rfl <;> rfl⟩
  have hta : ∀ i, i < 7 → (mt m (m + 1) i).1 ≠ m + 1 + 1 ∧ (mt m (m + 1) i).1 ≠ gr ∧ w.heap.size ≤ (mt m (m + 1) i).1 := fun i hi => by
    unfold mt; split <;> (dsimp only; omega)
  refine (take_any 40 7 gr (m + 1 + 1) (mt m (m + 1)) (rdV p (0, false)) (fun i => ((rdSt p (0, false) i).1 : Int)) (fun i => (rdSt p (0, false) i).2) p (Sev p w.heap.size m (m + 1)) w wa (by decide) hI3 HB3 hPt (fun i _ => rdN_f p (by omega) _ (rdSt_le p (0, false) (Nat.zero_le _) i)) hta ⟨hm0, hn0, ho0⟩ (fun i w1 hi h => h.cell hi) ?kp (fun i w1 hi h => h.set hi (by omega) (by omega) (by omega))).mono ?_
  case kp =>
    rintro i w1 w2' _ _ _ _ ⟨k1, k2, k3⟩ hk
    exact ⟨(hk.2 m (blk_lt k1) (by omega) (by simp)).trans k1, (hk.2 (m + 1) (blk_lt k2) (by omega) (by simp)).trans k2, (hk.2 _ (blk_lt k3) (by omega) (by simp)).trans k3⟩
  rintro ee w4 ⟨rfl, hI4, HB4, hS4⟩
  have hR4 : Rest w w.heap.size m (m + 1) (rdV p (0, false) 0) (rdV p (0, false) 1) (rdV p (0, false) 2) (rdV p (0, false) 3) (rdV p (0, false) 4) (rdV p (0, false) 5) (rdV p (0, false) 6) (fun _ => True) none 0 [] w4 := ⟨hS4.1, hS4.2.1, hS4.2.2, Kd.R_nil _ _ _ _ _⟩
  clear hm0 ho0 hI3 HB3 hn0 ha0 hPt hta hS4
  have hin : inside p = rdBs p (rdV p (0, false) 6) 65 0 [] (rdSt p (0, false) 7) := rfl
  have hfine : fine p = (!decide (rdV p (0, false) 6 < 0) && (ends p (inside p).2 && rightS (rdV p (0, false) 0) (rdV p (0, false) 1) (rdV p (0, false) 2) (rdV p (0, false) 3) (rdV p (0, false) 4) (rdV p (0, false) 5) (inside p).1)) := rfl
  have hst7 := rdSt_le p (0, false) (Nat.zero_le _) 7
  have hlen := rdBs_len p (rdV p (0, false) 6) 65 0 [] (rdSt p (0, false) 7)
  rw [← hin] at hlen
  replace hI4 : IsS76 w w4 gr p ((rdSt p (0, false) 7).1 : Int) (rdSt p (0, false) 7).2 := hI4
  generalize rdSt p (0, false) 7 = st7 at *
  generalize inside p = fin at *
  generalize rdV p (0, false) 0 = a0 at *
  generalize rdV p (0, false) 1 = a1 at *
  generalize rdV p (0, false) 2 = a2 at *
  generalize rdV p (0, false) 3 = a3 at *
  generalize rdV p (0, false) 4 = a4 at *
  generalize rdV p (0, false) 5 = a5 at *
  generalize rdV p (0, false) 6 = many at *
  replace hin := Aside0.mk hin
  replace hfine := Aside0.mk hfine
  replace hI4 := Aside0.mk hI4
  replace HB4 := Aside0.mk HB4
  replace hR4 := Aside0.mk hR4
  go_upto_block 0 with fail
  go_cut [] (fun wx => ∃ (BB : Option Addr) (cap : Nat), fin.2.1 ≤ p.size ∧ Aside0 (IsS76 w wx gr p (fin.2.1 : Int) fin.2.2) ∧ Aside0 (Below w.heap.size w wx) ∧ Aside0 (Rest w w.heap.size m (m + 1) a0 a1 a2 a3 a4 a5 many (fun _ => True) BB cap fin.1 wx))
  case first =>
    go_wp2_with fail
    go_loopg [10] 65 (fun kq v10 w' => ∃ (i cap : Nat) (BB : Option Addr) (acc : List S42) (st : St), v10 = .int .i64 (i : Int) ∧ i + kq = 65 ∧ acc.length = i ∧ st.1 ≤ p.size ∧ fin = rdBs p many (65 - i) i acc st ∧ Aside0 (IsS76 w w' gr p (st.1 : Int) st.2) ∧ Aside0 (Below w.heap.size w w') ∧ Aside0 (Rest w w.heap.size m (m + 1) a0 a1 a2 a3 a4 a5 many (fun _ => True) BB cap acc w'))
    case atStart => exact ⟨0, 0, none, [], st7, rfl, rfl, rfl, hst7, hin.out, hI4, HB4, hR4⟩
    case round =>
      clear hI4 HB4 hR4 hin
      obtain ⟨i, cap, BB, acc, ⟨sa, sb⟩, rfl, hik, hal, hsl, hfin, hI, HB, hR⟩ := hrel
      replace hsl : sa ≤ p.size := hsl
      replace hI : Aside0 (IsS76 w wr gr p (sa : Int) sb) := hI
      replace hfin := Aside0.mk hfin
      have hmany := (blk_cell hR.out.2.1 0).trans rfl
      by_cases h1 : (i : Int) < many
      · have d1 : decide ((i : Int) < many) = true := decide_eq_true h1
        by_cases h2 : i ≤ 64
        · have d2 : decide ((i : Int) ≤ 64) = true := by simp; omega
          have hbad : varint_Reader_Bad.f p (sa : Int) sb = some (sb, p, (sa : Int), sb) := rfl
          replace hbad := Aside0.mk hbad
          go_wp2_with fail
          refine (varint_Reader_Bad.calls gr p (sa : Int) sb sb p (sa : Int) sb w wr hI.out HB.out hbad.out).mono ?_; rintro ee w5 ⟨rfl, hI5, HB5, hk5⟩
          have hR5 := hR.out.keep hI.out hk5
          clear hmany hI HB hR hk5 hbad
          cases sb with
          | true =>
            have hfe : fin = (acc, (sa, true)) := by
              have := hfin.out
              rw [show 65 - i = (64 - i) + 1 by omega, rdBs, if_neg (by simp)] at this
              exact this
            subst hfe
            go_wp2_with fail
            go_meet
            exact ⟨BB, cap, hsl, Aside0.mk hI5, Aside0.mk HB5, Aside0.mk hR5⟩
          | false =>
            obtain ⟨mm, rfl⟩ : ∃ m, gk = m + 1 := ⟨gk - 1, by omega⟩
            have hfn : fin = rdBs p many (65 - (i + 1)) (i + 1) (acc ++ [(rdB p (sa, false)).1]) (rdB p (sa, false)).2 := by
              have := hfin.out
              rw [show 65 - i = (65 - (i + 1)) + 1 by omega, rdBs, if_pos ⟨h1, rfl⟩] at this
              exact this
            have hp62 : p.size ≤ 4611686018427387904 := by omega
            have hT1 := rdT_f p hp62 12 (sa, false) hsl
            have hL1 := rdT_le p 12 (sa, false) hsl
            have hB0 : rdB p (sa, false) = (⟨(rdT p 12 (sa, false)).1, (rdT p 12 (rdT p 12 (sa, false)).2).1, (rdN p (rdT p 12 (rdT p 12 (sa, false)).2).2).1⟩, (rdN p (rdT p 12 (rdT p 12 (sa, false)).2).2).2) := rfl
            generalize rdT p 12 (sa, false) = T1 at *
            obtain ⟨f0, s1a, s1b⟩ := T1
            have hT2 := rdT_f p hp62 12 (s1a, s1b) hL1
            have hL2 := rdT_le p 12 (s1a, s1b) hL1
            replace hB0 : rdB p (sa, false) = (⟨f0, (rdT p 12 (s1a, s1b)).1, (rdN p (rdT p 12 (s1a, s1b)).2).1⟩, (rdN p (rdT p 12 (s1a, s1b)).2).2) := hB0
            generalize rdT p 12 (s1a, s1b) = T2 at *
            obtain ⟨f1, s2a, s2b⟩ := T2
            have hN3 := rdN_f p hp62 (s2a, s2b) hL2
            have hL3 := rdN_le p (s2a, s2b) hL2
            replace hB0 : rdB p (sa, false) = (⟨f0, f1, (rdN p (s2a, s2b)).1⟩, (rdN p (s2a, s2b)).2) := hB0
            generalize rdN p (s2a, s2b) = N3 at *
            obtain ⟨f2, s3a, s3b⟩ := N3
            replace hB0 : rdB p (sa, false) = (⟨f0, f1, f2⟩, (s3a, s3b)) := hB0
            rw [hB0] at hfn
            replace hT1 : varint_Reader_Text.f 40 p (sa : Int) false 12 = some (f0, p, (s1a : Int), s1b) := hT1
            replace hT2 : varint_Reader_Text.f 40 p (s1a : Int) s1b 12 = some (f1, p, (s2a : Int), s2b) := hT2
            replace hN3 : varint_Reader_Num.f 40 p (s2a : Int) s2b = some (f2, p, (s3a : Int), s3b) := hN3
            replace hT1 := Aside0.mk hT1
            replace hT2 := Aside0.mk hT2
            replace hN3 := Aside0.mk hN3
            replace hfn := Aside0.mk hfn
            clear hB0 hfin
            go_wp2_with fail
            have hq0 := blk_new w5 (.cells #[.string ⟨#[]⟩, .string ⟨#[]⟩, .int .i64 0] 42)
            have hIa := hI5.alloc (.cells #[.string ⟨#[]⟩, .string ⟨#[]⟩, .int .i64 0] 42)
            have HBa := below_alloc HB5 (.cells #[.string ⟨#[]⟩, .string ⟨#[]⟩, .int .i64 0] 42)
            have hRa := hR5.bound.below (below_alloc (Below.refl _ _) (.cells #[.string ⟨#[]⟩, .string ⟨#[]⟩, .int .i64 0] 42))
            have hqg := hI5.lt
            have hqm := blk_lt hR5.1
            have hqn := blk_lt hR5.2.1
            have hqo := blk_lt hR5.2.2.1
            have hqw := HB5.size
            clear hI5 HB5 hR5
            revert hq0 hIa HBa hRa
            generalize w5.alloc (.cells #[.string ⟨#[]⟩, .string ⟨#[]⟩, .int .i64 0] 42) = wa'
            generalize w5.heap.size = q at *
            intro hq0 hIa HBa hRa
            refine (varint_Reader_Text.calls 40 gr p (sa : Int) false 12 f0 p (s1a : Int) s1b w wa' hIa HBa hT1.out).mono ?_; rintro ee w6 ⟨rfl, hI6, HB6, hk6⟩
            have hq6 := (hk6.2 q (blk_lt hq0) (by omega) (by simp)).trans hq0
            have hR6 := hRa.keep hIa hk6
            clear hq0 hIa HBa hRa hk6 hT1
            have x0 := (blk_cell hq6 0).trans rfl
            have z0 := blk_frozen hq6 0
            go_wp2_with fail
            clear x0 z0
            have hq7 := blk_put hq6 0 (.string f0) rfl
            have hI7 := hI6.far (p := ⟨q, 0, none⟩) (show gr ≠ q by omega) (.string f0)
            have HB7 := HB6.setCell (p := ⟨q, 0, none⟩) (show w.heap.size ≤ q by omega) (.string f0)
            have hR7 := hR6.far (q := ⟨q, 0, none⟩) (show m ≠ q by omega) (show m + 1 ≠ q by omega) (show w.heap.size ≠ q by omega) (fun k hk => show k ≠ q by omega) (.string f0)
            clear hq6 hI6 HB6 hR6
            revert hq7 hI7 HB7 hR7
            generalize w6.setCell ⟨q, 0, none⟩ (.string f0) = w7
            intro hq7 hI7 HB7 hR7
            refine (varint_Reader_Text.calls 40 gr p (s1a : Int) s1b 12 f1 p (s2a : Int) s2b w w7 hI7 HB7 hT2.out).mono ?_; rintro ee w8 ⟨rfl, hI8, HB8, hk8⟩
            have hq8 := (hk8.2 q (blk_lt hq7) (by omega) (by simp)).trans hq7
            have hR8 := hR7.keep hI7 hk8
            clear hq7 hI7 HB7 hR7 hk8 hT2
            have x1 := (blk_cell hq8 1).trans rfl
            have z1 := blk_frozen hq8 1
            go_wp2_with fail
            clear x1 z1
            have hq9 := blk_put hq8 1 (.string f1) rfl
            have hI9 := hI8.far (p := ⟨q, 1, none⟩) (show gr ≠ q by omega) (.string f1)
            have HB9 := HB8.setCell (p := ⟨q, 1, none⟩) (show w.heap.size ≤ q by omega) (.string f1)
            have hR9 := hR8.far (q := ⟨q, 1, none⟩) (show m ≠ q by omega) (show m + 1 ≠ q by omega) (show w.heap.size ≠ q by omega) (fun k hk => show k ≠ q by omega) (.string f1)
            have hs9 : (w8.setCell ⟨q, 1, none⟩ (.string f1)).heap.size = w8.heap.size := by simp [World.setCell]
            clear hq8 hI8 HB8 hR8
            revert hq9 hI9 HB9 hR9 hs9
            generalize w8.setCell ⟨q, 1, none⟩ (.string f1) = w9
            intro hq9 hI9 HB9 hR9 hs9
            have hqb := blk_alloc hq9 (.cells #[.pointer (some ⟨q, 2, none⟩)] 63)
            have hpb := blk_new w9 (.cells #[.pointer (some ⟨q, 2, none⟩)] 63)
            have hIb := hI9.alloc (.cells #[.pointer (some ⟨q, 2, none⟩)] 63)
            have HBb := below_alloc HB9 (.cells #[.pointer (some ⟨q, 2, none⟩)] 63)
            have hRb := hR9.below (below_alloc (Below.refl _ _) (.cells #[.pointer (some ⟨q, 2, none⟩)] 63))
            have hq9l := blk_lt hq9
            rw [hs9] at hpb hq9l
            clear hq9 hI9 HB9 hR9
            revert hqb hpb hIb HBb hRb
            generalize w9.alloc (.cells #[.pointer (some ⟨q, 2, none⟩)] 63) = wb
            clear hs9
            generalize w8.heap.size = pb at *
            intro hqb hpb hIb HBb hRb
            have e1 : q ≠ pb := by omega
            have e2 : q ≠ gr := by omega
            have hTk := take_one 40 gr pb q 2 f2 (s2a : Int) (s3a : Int) s2b s3b p (fun W => W.heap[q]? = some (.cells #[.string f0, .string f1, .int .i64 0] 42 (0, 0)) ∧ Rest w w.heap.size m (m + 1) a0 a1 a2 a3 a4 a5 many (fun k => k < q) BB cap acc W) (fun W => W.heap[q]? = some (.cells #[.string f0, .string f1, .int .i64 f2] 42 (0, 0)) ∧ Rest w w.heap.size m (m + 1) a0 a1 a2 a3 a4 a5 many (fun k => k < q) BB cap acc W) w wb hIb HBb hpb
            replace hTk := hTk hN3.out
            replace hTk := hTk e1 e2 hqw ⟨hqb, hRb⟩
            replace hTk := hTk (fun w1 h => ⟨⟨_, (blk_cell h.1 2).trans rfl⟩, blk_frozen h.1 2⟩)
            replace hTk := hTk (fun w1 w2 a b hI h hk => ⟨(hk.2 q (blk_lt h.1) e2 (by simp)).trans h.1, h.2.keep hI hk⟩)
            replace hTk := hTk (fun w1 h => ⟨blk_put h.1 2 (.int .i64 f2) rfl, h.2.far (q := ⟨q, 2, none⟩) (show m ≠ q by omega) (show m + 1 ≠ q by omega) (show w.heap.size ≠ q by omega) (fun k hk => show k ≠ q by omega) (.int .i64 f2)⟩)
            refine hTk.mono ?_; rintro ee w10 ⟨rfl, hI10, HB10, hq10, hR10⟩
            clear hqb hpb hIb HBb hRb hN3 hTk
            have b0 := (blk_cell hq10 0).trans rfl
            have b1 := (blk_cell hq10 1).trans rfl
            have b2 := (blk_cell hq10 2).trans rfl
            have r6 := (blk_cell hR10.1 6).trans rfl
            have f6 := blk_frozen hR10.1 6
            have hs10 := HB10.size
            have hql := blk_lt hq10
            have hR10q := hR10.mono (ok' := fun k => k ≠ q) (fun k hk => show k ≠ q from Nat.ne_of_lt hk)
            have hF10 := Aside0.mk hR10q
            clear hR10
            have hI10' := Aside0.mk hI10
            have HB10' := Aside0.mk HB10
            clear hI10 HB10 hR10q
            have hall : (acc.length + 1) * 40 ≤ 140737488355328 := by omega
            replace hal := Aside0.mk hal
            go_wp2_with (first | ((with_reducible refine gate_builtin (b := .append) (xs := #[.tmp 63, .tmp 65]) rfl ?_); at_builtin; go_loud (refine Kd.R_append k42 (w0 := w) w.heap.size rfl (.tmp 63) (.tmp 65) 22 42 (.agg #[.string ⟨#[]⟩, .string ⟨#[]⟩, .int .i64 0]) 40 rfl Tryd.underlying22 info42 rfl (by decide) (by omega) (.slice BB acc.length cap) acc (⟨f0, f1, f2⟩ : S42) [.string f0, .string f1, .int .i64 f2] (fun k => k ≠ q) (fun _ => False) rfl rfl (k42_mkM _ _ _ f0 f1 f2) (fun k hk => hk.elim) (fun k hk => by omega) hF10.out.2.2.2 HB10'.out hs10 hall ?_; intro v1 w11 ho1 hb1 hg1 hat1; obtain ⟨A9, c9, rfl⟩ := Kd.R_slice ho1; have hI11 := hI10'.out.grown hg1 (hI10'.out.own_ne hF10.out.2.2.2 (by decide)); have hm11 := hg1.block m (blk_lt hF10.out.1) (hF10.out.away hF10.out.1 (by decide)); have f11 := blk_frozen (hm11.trans hF10.out.1) 6; have x11 := (blk_cell (hm11.trans hF10.out.1) 6).trans rfl; have hR12 := hF10.out.app (by omega) (by omega) ho1 hg1; rw [List.length_append, List.length_singleton] at hR12; clear hg1 hat1 hm11 ho1)))
            have hI13 := Aside0.mk (hI11.far (p := ⟨m, 6, none⟩) (show gr ≠ m by omega) (.slice A9 (acc.length + 1) c9))
            have HB13 := Aside0.mk (hb1.setCell (p := ⟨m, 6, none⟩) (show w.heap.size ≤ m by omega) (.slice A9 (acc.length + 1) c9))
            replace hR12 := Aside0.mk hR12
            clear hI11 hb1 f11 x11 hF10 hI10' HB10'
            go_roundg mm
            case measure => omega
            case rel => exact ⟨i + 1, c9, A9, acc ++ [⟨f0, f1, f2⟩], (s3a, s3b), by rw [Int.natCast_add]; rfl, by omega, by simp [hal.out], hL3, hfn.out, hI13, HB13, hR12⟩
        · have d2 : decide ((i : Int) ≤ 64) = false := by simp; omega
          have hfe : fin = (acc, (sa, sb)) := by
            have := hfin.out
            rw [show 65 - i = 0 by omega, rdBs] at this
            exact this
          subst hfe
          go_wp2_with fail
          go_meet
          exact ⟨BB, cap, hsl, hI, HB, hR⟩
      · have d1 : decide ((i : Int) < many) = false := decide_eq_false h1
        have hfe : fin = (acc, (sa, sb)) := by
          have := hfin.out
          cases hd : 65 - i with
          | zero => rw [hd, rdBs] at this; exact this
          | succ d => rw [hd, rdBs, if_neg (fun h => h1 h.1)] at this; exact this
        subst hfe
        go_wp2_with fail
        go_meet
        exact ⟨BB, cap, hsl, hI, HB, hR⟩
  case rest =>
    clear hI4 HB4 hR4 hin
    obtain ⟨BB, cap, hfl, hI, HB, hR⟩ := hcut
    have hmany := (blk_cell hR.out.2.1 0).trans rfl
    by_cases c1 : many < 0
    · have d1 : decide (many < 0) = true := decide_eq_true c1
      have hf : fine p = false := by rw [hfine.out, d1]; rfl
      have hO := hR.out.2.2.1
      clear hI hfine
      have o0 := (blk_cell hO 0).trans rfl
      have o1 := (blk_cell hO 1).trans rfl
      have o2 := (blk_cell hO 2).trans rfl
      have o3 := (blk_cell hO 3).trans rfl
      have o4 := (blk_cell hO 4).trans rfl
      have o5 := (blk_cell hO 5).trans rfl
      have o6 := (blk_cell hO 6).trans rfl
      have p0 := blk_frozen hO 0
      have p1 := blk_frozen hO 1
      have p2 := blk_frozen hO 2
      have p3 := blk_frozen hO 3
      have p4 := blk_frozen hO 4
      have p5 := blk_frozen hO 5
      have p6 := blk_frozen hO 6
      obtain ⟨hO7, hG7⟩ := put7 (.int .i64 0) (.int .i64 0) (.int .i64 0) (.int .i64 0) (.int .i64 0) (.int .i64 0) (.slice none 0 0) hO
      have HB7 := HB.out.grown hG7 HB.out.size (fun k e => by injection e with e; omega)
      replace hG7 := Aside0.mk hG7
      replace HB7 := Aside0.mk HB7
      clear hR HB
      go_wp2_with fail
      refine bodyPost_ret (results_ct rfl _ _ w.heap.size 24 _ (0, 0) _ rfl hO7 Tryd.underlying24 rfl (by kernel_rfl)) rfl ?_
      unfold GetPost; rw [pn.out hf]; exact ⟨_, rfl, Kd.R_nil _ _ _ _ _, HB7.out⟩
    · have d1 : decide (many < 0) = false := decide_eq_false c1
      have hE := ends_f p (by omega) fin.2 hfl
      replace hE := Aside0.mk hE
      have hf0 : fine p = (ends p fin.2 && rightS a0 a1 a2 a3 a4 a5 fin.1) := by rw [hfine.out, d1]; rfl
      replace hf0 := Aside0.mk hf0
      clear hfine
      go_wp2_with fail
      refine (varint_Reader_Ends.calls gr p (fin.2.1 : Int) fin.2.2 (ends p fin.2) p (fin.2.1 : Int) fin.2.2 w wc hI.out HB.out hE.out).mono ?_; rintro ee w5 ⟨rfl, hI5, HB5, hk5⟩
      have hR5 := hR.out.keep hI.out hk5
      clear hmany hI HB hR hk5 hE
      cases hen : ends p fin.2 with
      | false =>
        have hf : fine p = false := by rw [hf0.out, hen]; rfl
        have hO := hR5.2.2.1
        clear hI5
        have o0 := (blk_cell hO 0).trans rfl
        have o1 := (blk_cell hO 1).trans rfl
        have o2 := (blk_cell hO 2).trans rfl
        have o3 := (blk_cell hO 3).trans rfl
        have o4 := (blk_cell hO 4).trans rfl
        have o5 := (blk_cell hO 5).trans rfl
        have o6 := (blk_cell hO 6).trans rfl
        have p0 := blk_frozen hO 0
        have p1 := blk_frozen hO 1
        have p2 := blk_frozen hO 2
        have p3 := blk_frozen hO 3
        have p4 := blk_frozen hO 4
        have p5 := blk_frozen hO 5
        have p6 := blk_frozen hO 6
        obtain ⟨hO7, hG7⟩ := put7 (.int .i64 0) (.int .i64 0) (.int .i64 0) (.int .i64 0) (.int .i64 0) (.int .i64 0) (.slice none 0 0) hO
        have HB7 := HB5.grown hG7 HB5.size (fun k e => by injection e with e; omega)
        replace hG7 := Aside0.mk hG7
        replace HB7 := Aside0.mk HB7
        clear HB5 hR5
        go_wp2_with fail
        refine bodyPost_ret (results_ct rfl _ _ w.heap.size 24 _ (0, 0) _ rfl hO7 Tryd.underlying24 rfl (by kernel_rfl)) rfl ?_
        unfold GetPost; rw [pn.out hf]; exact ⟨_, rfl, Kd.R_nil _ _ _ _ _, HB7.out⟩
      | true =>
        have hM := hR5.1
        have y0 := (blk_cell hM 0).trans rfl
        have y1 := (blk_cell hM 1).trans rfl
        have y2 := (blk_cell hM 2).trans rfl
        have y3 := (blk_cell hM 3).trans rfl
        have y4 := (blk_cell hM 4).trans rfl
        have y5 := (blk_cell hM 5).trans rfl
        have y6 := (blk_cell hM 6).trans rfl
        obtain ⟨_, hcl, hC⟩ := Kd.R_reads' hR5.2.2.2
        have hrc := right_calls a0 a1 a2 a3 a4 a5 BB cap fin.1 w5 hC hcl
        replace hrc := Aside0.mk hrc
        replace hR5 := Aside0.mk hR5
        replace HB5 := Aside0.mk HB5
        clear hI5 hM hC
        go_wp2_with fail
        refine hrc.out.mono ?_; rintro ee w6 ⟨rfl, hb6⟩
        have hR6 := hR5.out.below hb6
        have HB6 := HB5.out.trans (hb6.mono HB5.out.size)
        clear y0 y1 y2 y3 y4 y5 y6 hrc hR5 HB5 hb6
        cases hri : rightS a0 a1 a2 a3 a4 a5 fin.1 with
        | false =>
          have hf : fine p = false := by rw [hf0.out, hen, hri]; rfl
          have hO := hR6.2.2.1
          have o0 := (blk_cell hO 0).trans rfl
          have o1 := (blk_cell hO 1).trans rfl
          have o2 := (blk_cell hO 2).trans rfl
          have o3 := (blk_cell hO 3).trans rfl
          have o4 := (blk_cell hO 4).trans rfl
          have o5 := (blk_cell hO 5).trans rfl
          have o6 := (blk_cell hO 6).trans rfl
          have p0 := blk_frozen hO 0
          have p1 := blk_frozen hO 1
          have p2 := blk_frozen hO 2
          have p3 := blk_frozen hO 3
          have p4 := blk_frozen hO 4
          have p5 := blk_frozen hO 5
          have p6 := blk_frozen hO 6
          obtain ⟨hO7, hG7⟩ := put7 (.int .i64 0) (.int .i64 0) (.int .i64 0) (.int .i64 0) (.int .i64 0) (.int .i64 0) (.slice none 0 0) hO
          have HB7 := HB6.grown hG7 HB6.size (fun k e => by injection e with e; omega)
          replace hG7 := Aside0.mk hG7
          replace HB7 := Aside0.mk HB7
          clear HB6 hR6
          go_wp2_with fail
          refine bodyPost_ret (results_ct rfl _ _ w.heap.size 24 _ (0, 0) _ rfl hO7 Tryd.underlying24 rfl (by kernel_rfl)) rfl ?_
          unfold GetPost; rw [pn.out hf]; exact ⟨_, rfl, Kd.R_nil _ _ _ _ _, HB7.out⟩
        | true =>
          have hf : fine p = true := by rw [hf0.out, hen, hri]; rfl
          have hO := hR6.2.2.1
          have hM := hR6.1
          have y0 := (blk_cell hM 0).trans rfl
          have y1 := (blk_cell hM 1).trans rfl
          have y2 := (blk_cell hM 2).trans rfl
          have y3 := (blk_cell hM 3).trans rfl
          have y4 := (blk_cell hM 4).trans rfl
          have y5 := (blk_cell hM 5).trans rfl
          have y6 := (blk_cell hM 6).trans rfl
          have o0 := (blk_cell hO 0).trans rfl
          have o1 := (blk_cell hO 1).trans rfl
          have o2 := (blk_cell hO 2).trans rfl
          have o3 := (blk_cell hO 3).trans rfl
          have o4 := (blk_cell hO 4).trans rfl
          have o5 := (blk_cell hO 5).trans rfl
          have o6 := (blk_cell hO 6).trans rfl
          have p0 := blk_frozen hO 0
          have p1 := blk_frozen hO 1
          have p2 := blk_frozen hO 2
          have p3 := blk_frozen hO 3
          have p4 := blk_frozen hO 4
          have p5 := blk_frozen hO 5
          have p6 := blk_frozen hO 6
          obtain ⟨hO7, hG7⟩ := put7 (.int .i64 a0) (.int .i64 a1) (.int .i64 a2) (.int .i64 a3) (.int .i64 a4) (.int .i64 a5) (.slice BB fin.1.length cap) hO
          have HB7 := HB6.grown hG7 HB6.size (fun k e => by injection e with e; omega)
          have hR7 := Kd.R_mono (Kd.R_grown (Kd.R_types hR6.2.2.2 hO (fun q hq => by rw [bE q hq]; decide)) hG7 (fun k hk e => by injection e with e; exact hk.2 e)) (ok' := fun _ => True) (fun _ _ => trivial)
          replace hG7 := Aside0.mk hG7
          replace HB7 := Aside0.mk HB7
          replace hR7 := Aside0.mk hR7
          clear HB6 hR6 hM
          go_wp2_with fail
          refine bodyPost_ret (results_ct rfl _ _ w.heap.size 24 _ (0, 0) _ rfl hO7 Tryd.underlying24 rfl (by kernel_rfl)) rfl ?_
          unfold GetPost; rw [py.out hf]; exact ⟨_, rfl, hR7.out, HB7.out⟩
end Go.Proofs.YtdgaancbeakfdaaDoor.Gw
