/- slices.Insert of one work: a row of the call's own. -/
/- thin -/
import Derived.Test.YtldlkbjbfgieeaaGreatDoorRw
import Derived.Deep.RegionLaw
import Derived.Laws.NewBlocks
namespace Go.Proofs.YtldlkbjbfgieeaaGreatDoor.InW
set_option linter.unusedVariables false
set_option linter.unusedSimpArgs false
open Go.RowKit Go.Proofs.YtldlkbjbfgieeaaGreatDoorW.PrintWords Go.Proofs.YtldlkbjbfgieeaaGreatDoorW.PrintLast Mo Q Rw
/-- its cells -/
def fx (x : S32) : List Value := [.string x.f0, .int .i64 x.f1, .int .i64 x.f2, .int .i64 x.f3, .int .i64 x.f4, .string x.f5]
def fl (l : List S32) : List Value := l.flatMap fx
theorem fx_len (x : S32) : (fx x).length = 6 := rfl
theorem fl_len (l : List S32) : (fl l).length = l.length * 6 := flat_len fx_len l
theorem fx_one (x : S32) : ∀ v ∈ fx x, v.oneCell' = true := by simp [fx, Value.oneCell']
theorem fl_one (l : List S32) : ∀ v ∈ fl l, v.oneCell' = true := by
 intro v hv
 obtain ⟨x, _, hx⟩ := List.mem_flatMap.1 hv
 exact fx_one x v hx
theorem kM {w : World} {base : Nat} {ok : Nat → Prop} {x : S32} {cs : List Value} : k32.M w base ok x cs ↔ cs = fx x := ⟨fun h => k32_openM h, by rintro rfl; exact k32_mkM w base ok x⟩
theorem R_iff {w : World} {base : Nat} {ok : Nat → Prop} {V : Value} {l : List S32} : k32.R 32 w base ok V l ↔ (∀ k, V.ownBlock = some k → ok k) ∧ w.ownsRow base 32 6 V l.length (fl l) := by
 constructor
 ·rintro ⟨h0, inner, ho, hr⟩
  have := (reps_flat (R := k32.M w base (fun k => ok k ∧ some k ≠ V.ownBlock)) (fun x cs => kM) fx_len l inner).1 hr
  subst this
  exact ⟨h0, ho⟩
 ·rintro ⟨h0, ho⟩
  exact ⟨h0, fl l, ho, (reps_flat (R := k32.M w base (fun k => ok k ∧ some k ≠ V.ownBlock)) (fun x cs => kM) fx_len l _).2 rfl⟩
theorem C_one {w : World} {gx : Nat} {x : S32} (hx : w.heap[gx]? = some (.cells (fx x).toArray 32 (0, 0))) : Kd.C k32 w (some ⟨gx, 0, none⟩) 1 [x] := by
 refine ⟨rfl, by omega, fun _ => ⟨_, rfl, fun j p hj => ?_⟩⟩
 cases j with
 | zero =>
  obtain rfl : x = p := by simpa using hj
  refine ⟨fx x, rfl, k32_mk w x, fun q u hq => ?_⟩
  rw [add_plain, blk_cell hx]
  simpa using hq
 | succ j => simp at hj
def InPost (w0 w : World) (V : Value) (ok : Nat → Prop) (r : List S32) (e : Ending) (w' : World) : Prop := ∃ V', e = .returned V' ∧ k32.R 32 w' w0.heap.size ok V' r ∧ Below w0.heap.size w0 w' ∧ w.grownBy w' V.ownBlock
/-- the end of a row: appended -/
theorem insert_end (V : Value) (l : List S32) (x : S32) (gx : Nat) (ok : Nat → Prop) (w0 w : World) (hB : Below w0.heap.size w0 w) (hR : k32.R 32 w w0.heap.size ok V l) (hx : w.heap[gx]? = some (.cells (fx x).toArray 32 (0, 0))) (hfresh : ∀ k, w.heap.size ≤ k → ok k) (hl : l.length ≤ 2000000000000) :
 Calls Tryz.prog 97 #[V, .int .i64 l.length, .slice (some ⟨gx, 0, none⟩) 1 1] w (InPost w0 w V ok (l ++ [x])) := by
 have hC := C_one hx
 have hm : ¬ ((1 : Int) = 0) := by omega
 have hown := (R_iff.1 hR).2
 rcases hown.2 with ⟨rfl, hn⟩ | ⟨g, cap, cur, rfl, _, _, hnc, hcm, _⟩
 ·obtain rfl := List.eq_nil_of_length_eq_zero hn
  go_enter Tryz.func97, Tryz.ntmps97
  go_wp2_with (first | (at_builtin; refine Kd.R_append_rows k32 (Rr := k32.K w) (w0 := w0) w0.heap.size rfl (.tmp 23) (.tmp 24) 24 32 (.agg #[.string ⟨#[]⟩, .int .i64 0, .int .i64 0, .int .i64 0, .int .i64 0, .string ⟨#[]⟩]) 64 rfl Tryz.underlying24 (by kernel_rfl) rfl (by decide) (by omega) (.slice none 0 0) [] [x] _ _ _ ok (fun _ => False) rfl rfl hR ?aR (fun y cs h => kM.2 (k32_open h)) (fun _ h => h.elim) hfresh hB ?aS ?aL ?_; (case aR => exact hC); (case aS => exact hB.size); (case aL => simp); intro v1 w1 ho1 hb1 hg1 hat1))
  go_ret
  exact ⟨_, rfl, ho1, hb1, hg1⟩
 ·unfold maxLen at hcm
  have p1 : (0 : Int) ≤ (l.length : Int) := by omega
  have p2 : (l.length : Int) ≤ (cap : Int) := by omega
  go_enter Tryz.func97, Tryz.ntmps97
  go_wp2_with (first | (at_builtin; refine Kd.R_append_rows k32 (Rr := k32.K w) (w0 := w0) w0.heap.size rfl (.tmp 23) (.tmp 24) 24 32 (.agg #[.string ⟨#[]⟩, .int .i64 0, .int .i64 0, .int .i64 0, .int .i64 0, .string ⟨#[]⟩]) 64 rfl Tryz.underlying24 (by kernel_rfl) rfl (by decide) (by omega) (.slice (some ⟨g, 0, none⟩) l.length cap) l [x] _ _ _ ok (fun _ => False) rfl rfl hR ?aR (fun y cs h => kM.2 (k32_open h)) (fun _ h => h.elim) hfresh hB ?aS ?aL ?_; (case aR => exact hC); (case aS => exact hB.size); (case aL => omega); intro v1 w1 ho1 hb1 hg1 hat1))
  all_goals
   go_ret
   exact ⟨_, rfl, ho1, hb1, hg1⟩
/-- the cells that move one place up -/
def mid (cur : Array Value) (i n : Nat) : List Value := (cur.toList.drop (i * 6)).take ((n - i) * 6)
def row1 (cur : Array Value) (i n : Nat) : Array Value := (cur.toList.take ((i + 1) * 6) ++ mid cur i n ++ cur.toList.drop ((i + 1) * 6 + (mid cur i n).length)).toArray
def row2 (cur : Array Value) (i n : Nat) (x : S32) : Array Value := ((row1 cur i n).toList.take (i * 6) ++ fx x ++ (row1 cur i n).toList.drop (i * 6 + (fx x).length)).toArray
theorem mid_len {cur : Array Value} {i n cap : Nat} (hsz : cur.size = cap * 6) (h : n ≤ cap) (hi : i ≤ n) : (mid cur i n).length = (n - i) * 6 := by
 unfold mid
 rw [List.length_take, List.length_drop, Array.length_toList, hsz]
 omega
theorem mid_get {cur : Array Value} {i n j : Nat} {v : Value} (h : (mid cur i n)[j]? = some v) : cur[i * 6 + j]? = some v := by
 unfold mid at h
 rw [List.getElem?_take] at h
 split at h
 ·rw [List.getElem?_drop, Array.getElem?_toList] at h; exact h
 ·cases h
theorem row1_size {cur : Array Value} {i n cap : Nat} (hsz : cur.size = cap * 6) (h : n + 1 ≤ cap) (hi : i ≤ n) : (row1 cur i n).size = cap * 6 := by
 unfold row1
 rw [List.size_toArray, List.length_append, List.length_append, List.length_take, List.length_drop, Array.length_toList, mid_len hsz (by omega) hi, hsz]
 omega
theorem row2_size {cur : Array Value} {i n cap : Nat} {x : S32} (hsz : cur.size = cap * 6) (h : n + 1 ≤ cap) (hi : i ≤ n) : (row2 cur i n x).size = cap * 6 := by
 unfold row2
 rw [List.size_toArray, List.length_append, List.length_append, List.length_take, List.length_drop, Array.length_toList, row1_size hsz h hi, fx_len]
 omega
theorem row2_take {cur : Array Value} {i cap : Nat} {x : S32} {l : List S32} (hsz : cur.size = cap * 6) (h : l.length + 1 ≤ cap) (hi : i ≤ l.length) (hcur : cur.toList.take (l.length * 6) = fl l) : (row2 cur i l.length x).toList.take ((l.length + 1) * 6) = fl (l.take i ++ x :: l.drop i) := by
 have hm := mid_len hsz (show l.length ≤ cap by omega) hi
 have hcl : cur.toList.length = cap * 6 := by rw [Array.length_toList, hsz]
 have e1 : (row1 cur i l.length).toList.take (i * 6) = cur.toList.take (i * 6) := by
  unfold row1
  rw [List.append_assoc, List.take_append_of_le_length (by rw [List.length_take]; omega), List.take_take, Nat.min_eq_left (by omega)]
 have e2 : (row1 cur i l.length).toList.drop (i * 6 + (fx x).length) = mid cur i l.length ++ cur.toList.drop ((i + 1) * 6 + (mid cur i l.length).length) := by
  unfold row1
  rw [List.append_assoc, List.drop_left' (by rw [List.length_take, fx_len]; omega)]
 have e3 : mid cur i l.length = fl (l.drop i) := by
  unfold mid fl
  rw [flat_drop fx_len, show l.flatMap fx = fl l from rfl, ← hcur, List.drop_take]
  congr 1
  omega
 have e4 : cur.toList.take (i * 6) = fl (l.take i) := by
  unfold fl
  rw [flat_take fx_len, show l.flatMap fx = fl l from rfl, ← hcur, List.take_take, Nat.min_eq_left (by omega)]
 unfold row2
 rw [e1, e2, e4, e3]
 show ((fl (l.take i) ++ fx x) ++ (fl (l.drop i) ++ _)).take _ = _
 rw [← List.append_assoc]
 have e5 : fl (l.take i ++ x :: l.drop i) = (fl (l.take i) ++ fx x) ++ fl (l.drop i) := by
  unfold fl
  rw [List.flatMap_append, List.flatMap_cons, List.append_assoc]
 rw [e5, List.take_left' (by rw [← e5, fl_len, List.length_append, List.length_cons, List.length_take, List.length_drop]; omega)]
set_option maxHeartbeats 4000000 in
set_option maxRecDepth 100000 in
theorem insert_shift_walk (g cap n i gx : Nat) (cur : Array Value) (x : S32) (w : World) (hg : w.heap[g]? = some (.cells cur 32 (0, 0))) (hx : w.heap[gx]? = some (.cells (fx x).toArray 32 (0, 0))) (hne : gx ≠ g) (hsz : cur.size = cap * 6) (hcap : cap ≤ 9223372036854775807) (hroom : n + 1 ≤ cap) (hi : i < n) (h1c : ∀ v ∈ mid cur i n, v.oneCell' = true) :
 Calls Tryz.prog 97 #[.slice (some ⟨g, 0, none⟩) n cap, .int .i64 i, .slice (some ⟨gx, 0, none⟩) 1 1] w fun e w' => e = .returned (.slice (some ⟨g, 0, none⟩) (n + 1) cap) ∧ w' = (w.drew.setRow g (row1 cur i n)).setRow g (row2 cur i n x) := by
 have hm : ¬ ((1 : Int) = 0) := by omega
 have h1 : ¬ ((i : Int) = (n : Int)) := by omega
 have p1 : (0 : Int) ≤ (i : Int) := by omega
 have p2 : (i : Int) ≤ (n : Int) := by omega
 have h2 : ¬ ((cap : Int) < (n : Int) + 1) := by omega
 have h3 : ¬ (cap = i) := by omega
 have h4 : ¬ (cap = i + 1) := by omega
 have p3 : (0 : Int) ≤ (n : Int) + 1 := by omega
 have p4 : (n : Int) + 1 ≤ (cap : Int) := by omega
 have hov : ∀ o lb cb, (callFunc 116 #[.slice (some ⟨gx, 0, none⟩) 1 1, .slice (some ⟨g, o, none⟩) lb cb]).run Tryz.prog w = .ok (.value (.bool false)) w := fun o lb cb => by
  rw [run_callFunc_extern Tryz.func116 (by kernel_rfl) (by kernel_rfl) (by kernel_rfl) (e := Extern.SlicesOverlaps.overlaps #[24, 24] #[4]) (by kernel_rfl),
   Lib.run_overlaps_apart w 24 4 32 Tryz.underlying24 6 (fun w => by kernel_rfl) ⟨gx, 0, none⟩ ⟨g, o, none⟩ 1 1 lb cb hne 32 32 6 (cap * 6) (by simp [World.shape?, hx, fx]) (by simp [World.shape?, hg, hsz]) (by omega) (blk_frozen hx 0) (blk_frozen hx 6)]
  rfl
 have hs : (Tryz.prog.info? 32).map (·.size) = some 6 := by kernel_rfl
 have hcp1 : ∀ ty dl sl dc sc, dl = n - i → sl = n + 1 - i → (Builtin.copy_ #[24, 24] ty #[.slice (some ⟨g, (i + 1) * 6, none⟩) dl dc, .slice (some ⟨g, i * 6, none⟩) sl sc]).run Tryz.prog w.drew = .ok (goInt (Nat.min sl dl)) (w.drew.setRow g (row1 cur i n)) := by
  rintro ty dl sl dc sc rfl rfl
  exact run_copy_wide w.drew 24 24 ty 32 6 g ((i + 1) * 6) (n - i) dc ⟨g, i * 6, none⟩ (n + 1 - i) sc cur 32 (mid cur i n) Tryz.underlying24 hs (blk_drew hg) (by rw [mid_len hsz (by omega) (by omega), show Nat.min (n + 1 - i) (n - i) = n - i from Nat.min_eq_right (by omega)])
   (fun j v hj => by rw [Addr.add_lit]; exact (blk_cell (blk_drew hg) _).trans (mid_get hj)) (by rw [mid_len hsz (by omega) (by omega), hsz]; omega) h1c
 have hg1 : (w.drew.setRow g (row1 cur i n)).heap[g]? = some (.cells (row1 cur i n) 32 (0, 0)) := setRow_heap w.drew g cur _ 32 _ hg
 have hx1 : (w.drew.setRow g (row1 cur i n)).heap[gx]? = some (.cells (fx x).toArray 32 (0, 0)) := (setRow_other w.drew g gx _ hne).trans hx
 have hcp2 : ∀ ty dl sl dc sc, dl = n + 1 - i → sl = 1 → (Builtin.copy_ #[24, 24] ty #[.slice (some ⟨g, i * 6, none⟩) dl dc, .slice (some ⟨gx, 0, none⟩) sl sc]).run Tryz.prog (w.drew.setRow g (row1 cur i n)) = .ok (goInt (Nat.min sl dl)) ((w.drew.setRow g (row1 cur i n)).setRow g (row2 cur i n x)) := by
  rintro ty dl sl dc sc rfl rfl
  exact run_copy_wide _ 24 24 ty 32 6 g (i * 6) (n + 1 - i) dc ⟨gx, 0, none⟩ 1 sc (row1 cur i n) 32 (fx x) Tryz.underlying24 hs hg1 (by rw [fx_len, show Nat.min 1 (n + 1 - i) = 1 from Nat.min_eq_left (by omega)])
   (fun j v hj => by rw [Addr.add_lit, Nat.zero_add]; exact (blk_cell hx1 _).trans (by simpa using hj)) (by rw [fx_len, row1_size hsz hroom (by omega)]; omega) (fx_one x)
 have w1 : IntKind.i64.wrap ((i : Int) + 1) = (i : Int) + 1 := by rw [IntKind.wrap_i64]; omega
 have q1 : (0 : Int) ≤ (i : Int) + 1 := by omega
 have q2 : ((i : Int) + 1).toNat = i + 1 := by omega
 have q3 : (i : Int) + 1 ≤ (n : Int) + 1 := by omega
 have q4 : (i : Int) ≤ (n : Int) + 1 := by omega
 generalize hr1 : w.drew.setRow g (row1 cur i n) = W1 at *
 go_enter Tryz.func97, Tryz.ntmps97
 go_wp2_with (simp only [hov])
 go_region_law (refine step_copy_run rfl _ _ 24 24 rfl _ _ (by simp [Act.eval, Act.put]) (by simp [Act.eval, Act.put]) (hcp1 _ _ _ _ _ (by omega) (by omega)) ?_)
 go_wp2_with (with_reducible refine wpList_copy_run _ rfl _ _ 24 24 rfl _ _ rfl rfl (hcp2 _ _ _ _ _ (by omega) (by omega)) ?_)
 go_ret
 exact ⟨rfl, rfl⟩
/-! ### no room: a new row -/
def zc (k : Nat) : Array Value := Builtin.zeroCells (.agg #[.string ⟨#[]⟩, .int .i64 0, .int .i64 0, .int .i64 0, .int .i64 0, .string ⟨#[]⟩] : Value).cells k
theorem zc_size (k : Nat) : (zc k).size = k * 6 := by simp [zc, Builtin.zeroCells, Value.cells]
def rowN (cur : Array Value) (i n G : Nat) : Array Value := (cur.toList.take (i * 6)).toArray ++ zc (n + 1 - i) ++ zc (G - (n + 1))
def rowA (cur : Array Value) (i n G : Nat) (x : S32) : Array Value := ((rowN cur i n G).toList.take (i * 6) ++ fx x ++ (rowN cur i n G).toList.drop (i * 6 + (fx x).length)).toArray
def rowB (cur : Array Value) (i n G : Nat) (x : S32) : Array Value := ((rowA cur i n G x).toList.take ((i + 1) * 6) ++ mid cur i n ++ (rowA cur i n G x).toList.drop ((i + 1) * 6 + (mid cur i n).length)).toArray
theorem rowN_size {cur : Array Value} {i n cap G : Nat} (hsz : cur.size = cap * 6) (hn : n ≤ cap) (hi : i ≤ n) (hG : n + 1 ≤ G) : (rowN cur i n G).size = G * 6 := by
 unfold rowN
 rw [Array.size_append, Array.size_append, zc_size, zc_size, List.size_toArray, List.length_take, Array.length_toList, hsz]
 omega
theorem rowA_size {cur : Array Value} {i n cap G : Nat} {x : S32} (hsz : cur.size = cap * 6) (hn : n ≤ cap) (hi : i ≤ n) (hG : n + 1 ≤ G) : (rowA cur i n G x).size = G * 6 := by
 unfold rowA
 rw [List.size_toArray, List.length_append, List.length_append, List.length_take, List.length_drop, Array.length_toList, rowN_size hsz hn hi hG, fx_len]
 omega
theorem rowB_size {cur : Array Value} {i n cap G : Nat} {x : S32} (hsz : cur.size = cap * 6) (hn : n ≤ cap) (hi : i ≤ n) (hG : n + 1 ≤ G) : (rowB cur i n G x).size = G * 6 := by
 unfold rowB
 rw [List.size_toArray, List.length_append, List.length_append, List.length_take, List.length_drop, Array.length_toList, rowA_size hsz hn hi hG, mid_len hsz hn hi]
 omega
theorem rowB_take {cur : Array Value} {i cap G : Nat} {x : S32} {l : List S32} (hsz : cur.size = cap * 6) (h : l.length ≤ cap) (hi : i ≤ l.length) (hG : l.length + 1 ≤ G) (hcur : cur.toList.take (l.length * 6) = fl l) : (rowB cur i l.length G x).toList.take ((l.length + 1) * 6) = fl (l.take i ++ x :: l.drop i) := by
 have hm := mid_len hsz h hi
 have hcl : cur.toList.length = cap * 6 := by rw [Array.length_toList, hsz]
 have hNl : (rowN cur i l.length G).toList.length = G * 6 := by rw [Array.length_toList, rowN_size hsz h hi hG]
 have e1 : (rowN cur i l.length G).toList.take (i * 6) = cur.toList.take (i * 6) := by
  unfold rowN
  rw [Array.append_assoc, Array.toList_append, List.take_append_of_le_length (by rw [List.length_take]; omega), List.take_take, Nat.min_self]
 have e2 : (rowA cur i l.length G x).toList.take ((i + 1) * 6) = cur.toList.take (i * 6) ++ fx x := by
  unfold rowA
  rw [e1]
  exact List.take_left' (by rw [List.length_append, List.length_take, fx_len]; omega)
 have e3 : mid cur i l.length = fl (l.drop i) := by
  unfold mid fl
  rw [flat_drop fx_len, show l.flatMap fx = fl l from rfl, ← hcur, List.drop_take]
  congr 1
  omega
 have e4 : cur.toList.take (i * 6) = fl (l.take i) := by
  unfold fl
  rw [flat_take fx_len, show l.flatMap fx = fl l from rfl, ← hcur, List.take_take, Nat.min_eq_left (by omega)]
 unfold rowB
 rw [e2, e4, e3]
 show ((fl (l.take i) ++ fx x) ++ fl (l.drop i) ++ _).take _ = _
 have e5 : fl (l.take i ++ x :: l.drop i) = (fl (l.take i) ++ fx x) ++ fl (l.drop i) := by
  unfold fl
  rw [List.flatMap_append, List.flatMap_cons, List.append_assoc]
 rw [e5, List.take_left' (by rw [← e5, fl_len, List.length_append, List.length_cons, List.length_take, List.length_drop]; omega)]
set_option maxHeartbeats 4000000 in
set_option maxRecDepth 100000 in
theorem insert_grow_walk (g n i gx : Nat) (cur : Array Value) (x : S32) (w : World) (hg : w.heap[g]? = some (.cells cur 32 (0, 0))) (hx : w.heap[gx]? = some (.cells (fx x).toArray 32 (0, 0))) (hsz : cur.size = n * 6) (hn : n ≤ 2000000000) (hi : i < n) (h1c : ∀ v ∈ mid cur i n, v.oneCell' = true) :
 Calls Tryz.prog 97 #[.slice (some ⟨g, 0, none⟩) n n, .int .i64 i, .slice (some ⟨gx, 0, none⟩) 1 1] w fun e w' => ∃ G, n + 1 ≤ G ∧ G ≤ maxLen ∧ e = .returned (.slice (some ⟨w.heap.size, 0, none⟩) (n + 1) G) ∧ w' = (((w.alloc (.cells (rowN cur i n G) 32)).drew.setRow w.heap.size (rowA cur i n G x)).drew).setRow w.heap.size (rowB cur i n G x) := by
 obtain ⟨i0, hi0, hz0, hzs, hzb⟩ := info_parts info32
 have hm : ¬ ((1 : Int) = 0) := by omega
 have h1 : ¬ ((i : Int) = (n : Int)) := by omega
 have p1 : (0 : Int) ≤ (i : Int) := by omega
 have p2 : (i : Int) ≤ (n : Int) := by omega
 have h2 : (n : Int) < (n : Int) + 1 := by omega
 have h3 : ¬ (n = i) := by omega
 have hold : (Builtin.firstCells i0.size i (.slice (some ⟨g, 0, none⟩) i n)).run Tryz.prog w.drew = .ok (cur.toList.take (i * 6)).toArray w.drew := by
  rw [hzs]
  exact run_firstCells_some w.drew 6 i ⟨g, 0, none⟩ i n (cur.toList.take (i * 6)) (by rw [List.length_take, Array.length_toList, hsz]; omega) (fun j v hj => by
   rw [add_plain]
   refine (blk_cell (blk_drew hg) _).trans ?_
   rw [List.getElem?_take] at hj
   split at hj
   ·rw [Array.getElem?_toList] at hj; exact hj
   ·cases hj)
 have hkk : (n : Int) + 1 - (i : Int) = ((n + 1 - i : Nat) : Int) := by omega
 have hik : i + (n + 1 - i) = n + 1 := by omega
 have hrz : ∀ ty, (Builtin.append_ #[24, 3] ty #[.slice (some ⟨g, 0, none⟩) i n, .int .i64 ((n : Int) + 1 - (i : Int))]).run Tryz.prog w =
  .ok (.slice (some ⟨w.heap.size, 0, none⟩) (n + 1) (grownCap w (n + 1) n 32)) (w.drew.alloc (.cells (rowN cur i n (grownCap w (n + 1) n 32)) 32)) := fun ty => by
  have h := Lib.run_append_grow_zeros w 24 3 ty 32 i0 _ .i64 .i64 Tryz.underlying24 Tryz.underlying3 hi0 hz0 (some ⟨g, 0, none⟩) i n (cur.toList.take (i * 6)) hold (n + 1 - i) (by omega) (by omega) (by omega) (by omega) (by rw [hzb]; omega) (by rw [hzb, hik]; exact growslice_fits (by omega) (by omega))
  rw [hik] at h
  rw [hkk]
  exact h
 have hG := grownCap_ge w (n + 1) n 32
 have hGm := grownCap_le_maxLen w (n + 1) n 32 (by unfold maxLen; omega)
 generalize grownCap w (n + 1) n 32 = G at *
 have hs : (Tryz.prog.info? 32).map (·.size) = some 6 := by kernel_rfl
 have hb := blk_lt hg
 have hbx := blk_lt hx
 have hN : (w.alloc (.cells (rowN cur i n G) 32)).drew.heap[w.heap.size]? = some (.cells (rowN cur i n G) 32 (0, 0)) := blk_drew (blk_new w _)
 have hxN : (w.alloc (.cells (rowN cur i n G) 32)).drew.heap[gx]? = some (.cells (fx x).toArray 32 (0, 0)) := blk_drew (blk_alloc hx _)
 have hgN : (w.alloc (.cells (rowN cur i n G) 32)).drew.heap[g]? = some (.cells cur 32 (0, 0)) := blk_drew (blk_alloc hg _)
 have hcp1 : ∀ ty dl sl dc sc, dl = n + 1 - i → sl = 1 → (Builtin.copy_ #[24, 24] ty #[.slice (some ⟨w.heap.size, i * 6, none⟩) dl dc, .slice (some ⟨gx, 0, none⟩) sl sc]).run Tryz.prog (w.alloc (.cells (rowN cur i n G) 32)).drew = .ok (goInt (Nat.min sl dl)) ((w.alloc (.cells (rowN cur i n G) 32)).drew.setRow w.heap.size (rowA cur i n G x)) := by
  rintro ty dl sl dc sc rfl rfl
  exact run_copy_wide _ 24 24 ty 32 6 w.heap.size (i * 6) (n + 1 - i) dc ⟨gx, 0, none⟩ 1 sc (rowN cur i n G) 32 (fx x) Tryz.underlying24 hs hN (by rw [fx_len, show Nat.min 1 (n + 1 - i) = 1 from Nat.min_eq_left (by omega)])
   (fun j v hj => by rw [Addr.add_lit, Nat.zero_add]; exact (blk_cell hxN _).trans (by simpa using hj)) (by rw [fx_len, rowN_size hsz (by omega) (by omega) hG]; omega) (fx_one x)
 have hA : (((w.alloc (.cells (rowN cur i n G) 32)).drew.setRow w.heap.size (rowA cur i n G x)).drew).heap[w.heap.size]? = some (.cells (rowA cur i n G x) 32 (0, 0)) := blk_drew (setRow_heap _ _ _ _ 32 _ hN)
 have hgA : (((w.alloc (.cells (rowN cur i n G) 32)).drew.setRow w.heap.size (rowA cur i n G x)).drew).heap[g]? = some (.cells cur 32 (0, 0)) := blk_drew ((setRow_other _ _ g _ (by omega)).trans hgN)
 have hcp2 : ∀ ty dl sl dc sc, dl = n - i → sl = n - i → (Builtin.copy_ #[24, 24] ty #[.slice (some ⟨w.heap.size, (i + 1) * 6, none⟩) dl dc, .slice (some ⟨g, i * 6, none⟩) sl sc]).run Tryz.prog (((w.alloc (.cells (rowN cur i n G) 32)).drew.setRow w.heap.size (rowA cur i n G x)).drew) = .ok (goInt (Nat.min sl dl)) ((((w.alloc (.cells (rowN cur i n G) 32)).drew.setRow w.heap.size (rowA cur i n G x)).drew).setRow w.heap.size (rowB cur i n G x)) := by
  rintro ty dl sl dc sc rfl rfl
  exact run_copy_wide _ 24 24 ty 32 6 w.heap.size ((i + 1) * 6) (n - i) dc ⟨g, i * 6, none⟩ (n - i) sc (rowA cur i n G x) 32 (mid cur i n) Tryz.underlying24 hs hA (by rw [mid_len hsz (by omega) (by omega), show Nat.min (n - i) (n - i) = n - i from Nat.min_self _])
   (fun j v hj => by rw [Addr.add_lit]; exact (blk_cell hgA _).trans (mid_get hj)) (by rw [mid_len hsz (by omega) (by omega), rowA_size hsz (by omega) (by omega) hG]; omega) h1c
 have w1 : IntKind.i64.wrap ((i : Int) + 1) = (i : Int) + 1 := by rw [IntKind.wrap_i64]; omega
 have q1 : (0 : Int) ≤ (i : Int) + 1 := by omega
 have q2 : ((i : Int) + 1).toNat = i + 1 := by omega
 have q3 : (i : Int) + 1 ≤ (n : Int) + 1 := by omega
 have q4 : (i : Int) ≤ (n : Int) + 1 := by omega
 have h5 : ¬ (G = i) := by omega
 have h6 : ¬ (G = i + 1) := by omega
 have q5 : (n : Int) ≤ (n : Int) := by omega
 replace hN := Lib.hid hN; replace hxN := Lib.hid hxN; replace hgN := Lib.hid hgN; replace hA := Lib.hid hA; replace hgA := Lib.hid hgA
 clear hold hkk hik
 go_enter Tryz.func97, Tryz.ntmps97
 go_wp2_with (first
  | (at_builtin; refine Lib.wpList_append_run _ rfl _ _ _ _ rfl _ _ rfl rfl _ _ (hrz _) ?_)
  | (with_reducible refine wpList_copy_run _ rfl _ _ 24 24 rfl _ _ rfl rfl (hcp1 _ _ _ _ _ (by omega) (by omega)) ?_))
 go_region_law (refine step_copy_run rfl _ _ 24 24 rfl _ _ (by simp [Act.eval, Act.put]) (by simp [Act.eval, Act.put]) (hcp2 _ _ _ _ _ (by omega) (by omega)) ?_)
 go_wp2
 go_ret
 exact ⟨G, hG, hGm, rfl, rfl⟩
theorem mid_one {cur : Array Value} {i : Nat} {l : List S32} (hcur : cur.toList.take (l.length * 6) = fl l) (hi : i ≤ l.length) : ∀ v ∈ mid cur i l.length, v.oneCell' = true := by
 have e3 : mid cur i l.length = (fl l).drop (i * 6) := by
  unfold mid
  rw [← hcur, List.drop_take]
  congr 1
  omega
 rw [e3]
 exact fun v hv => fl_one l v (List.mem_of_mem_drop hv)
/-- slices.Insert of one, at place i of a row of the call's own -/
theorem insert_any (V : Value) (l : List S32) (i : Nat) (x : S32) (gx : Nat) (ok : Nat → Prop) (w0 w : World) (hB : Below w0.heap.size w0 w) (hR : k32.R 32 w w0.heap.size ok V l) (hx : w.heap[gx]? = some (.cells (fx x).toArray 32 (0, 0))) (hne : some gx ≠ V.ownBlock) (hfresh : ∀ k, w.heap.size ≤ k → ok k) (hl : l.length ≤ 2000000) (hi : i ≤ l.length) :
 Calls Tryz.prog 97 #[V, .int .i64 i, .slice (some ⟨gx, 0, none⟩) 1 1] w (InPost w0 w V ok (l.take i ++ x :: l.drop i)) := by
 by_cases hil : i = l.length
 ·subst hil
  rw [List.take_length, List.drop_length]
  exact insert_end V l x gx ok w0 w hB hR hx hfresh (by omega)
 ·obtain ⟨hok, hown⟩ := R_iff.1 hR
  rcases hown.2 with ⟨rfl, hn⟩ | ⟨g, cap, cur, rfl, hbg, hg, hnc, hcm, hsz, hcur⟩
  ·omega
  ·have hgx : gx ≠ g := fun e => hne (by rw [e]; rfl)
   have hlen : (l.take i ++ x :: l.drop i).length = l.length + 1 := by rw [List.length_append, List.length_cons, List.length_take, List.length_drop]; omega
   by_cases hroom : l.length + 1 ≤ cap
   ·refine (insert_shift_walk g cap l.length i gx cur x w hg hx hgx hsz (by unfold maxLen at hcm; exact hcm) hroom (by omega) (mid_one hcur hi)).mono ?_
    rintro e w' ⟨rfl, rfl⟩
    have h1 : (w.drew.setRow g (row1 cur i l.length)).heap[g]? = some (.cells (row1 cur i l.length) 32 (0, 0)) := setRow_heap w.drew g cur _ 32 _ hg
    have hG : w.grownBy ((w.drew.setRow g (row1 cur i l.length)).setRow g (row2 cur i l.length x)) (some g) := by
     refine ⟨rfl, rfl, rfl, by simp, fun k _ hk => ?_⟩
     have hkg : k ≠ g := fun e => hk (by rw [e])
     exact (setRow_other _ g k _ hkg).trans (setRow_other w.drew g k _ hkg)
    refine ⟨_, rfl, R_iff.2 ⟨hok, ?_⟩, hB.grown hG hB.size (fun k e => by injection e with e; omega), hG⟩
    refine ⟨by rw [fl_len], .inr ⟨g, cap, row2 cur i l.length x, by rw [hlen], hbg, setRow_heap _ g _ _ 32 _ h1, by omega, hcm, row2_size hsz hroom hi, ?_⟩⟩
    rw [hlen]
    exact row2_take hsz hroom hi hcur
   ·obtain rfl : cap = l.length := by omega
    refine (insert_grow_walk g l.length i gx cur x w hg hx hsz (by omega) (by omega) (mid_one hcur hi)).mono ?_
    rintro e w' ⟨G, hG1, hG2, rfl, rfl⟩
    have hN : (w.alloc (.cells (rowN cur i l.length G) 32)).drew.heap[w.heap.size]? = some (.cells (rowN cur i l.length G) 32 (0, 0)) := blk_drew (blk_new w _)
    have hA : (((w.alloc (.cells (rowN cur i l.length G) 32)).drew.setRow w.heap.size (rowA cur i l.length G x)).drew).heap[w.heap.size]? = some (.cells (rowA cur i l.length G x) 32 (0, 0)) := blk_drew (setRow_heap _ _ _ _ 32 _ hN)
    have hG : Below w.heap.size w ((((w.alloc (.cells (rowN cur i l.length G) 32)).drew.setRow w.heap.size (rowA cur i l.length G x)).drew).setRow w.heap.size (rowB cur i l.length G x)) := by
     refine ⟨rfl, rfl, rfl, by simp, fun k hk => ?_⟩
     have hkg : k ≠ w.heap.size := by omega
     exact (setRow_other _ _ k _ hkg).trans ((setRow_other (w.alloc (.cells (rowN cur i l.length G) 32)).drew _ k _ hkg).trans (Below.heap_alloc w _ k hk))
    refine ⟨_, rfl, R_iff.2 ⟨fun k hk => ?_, ?_⟩, below_then hB hB.size hG, grown_of_below hG _⟩
    ·have : w.heap.size = k := by simpa [Value.ownBlock] using hk
     exact hfresh k (by omega)
    refine ⟨by rw [fl_len], .inr ⟨w.heap.size, G, rowB cur i l.length G x, by rw [hlen], hB.size, setRow_heap _ _ _ _ 32 _ hA, by omega, hG2, rowB_size hsz (by omega) hi hG1, ?_⟩⟩
    rw [hlen]
    exact rowB_take hsz (by omega) hi hG1 hcur
end Go.Proofs.YtldlkbjbfgieeaaGreatDoor.InW
namespace Go.Proofs.YtldlkbjbfgieeaaGreatDoor.InN
set_option linter.unusedVariables false
set_option linter.unusedSimpArgs false
open Go.RowKit Go.Proofs.YtldlkbjbfgieeaaGreatDoorW.PrintWords Go.Proofs.YtldlkbjbfgieeaaGreatDoorW.PrintLast Mo Q Rw
/-- its cells -/
def fx (x : S34) : List Value := [.string x.f0, .int .i64 x.f1, .int .i64 x.f2, .string x.f3, .bool x.f4]
def fl (l : List S34) : List Value := l.flatMap fx
theorem fx_len (x : S34) : (fx x).length = 5 := rfl
theorem fl_len (l : List S34) : (fl l).length = l.length * 5 := flat_len fx_len l
theorem kM {w : World} {base : Nat} {ok : Nat → Prop} {x : S34} {cs : List Value} : k34.M w base ok x cs ↔ cs = fx x := ⟨fun h => k34_openM h, by rintro rfl; exact k34_mkM w base ok x⟩
theorem R_iff {w : World} {base : Nat} {ok : Nat → Prop} {V : Value} {l : List S34} : k34.R 34 w base ok V l ↔ (∀ k, V.ownBlock = some k → ok k) ∧ w.ownsRow base 34 5 V l.length (fl l) := by
 constructor
 ·rintro ⟨h0, inner, ho, hr⟩
  have := (reps_flat (R := k34.M w base (fun k => ok k ∧ some k ≠ V.ownBlock)) (fun x cs => kM) fx_len l inner).1 hr
  subst this
  exact ⟨h0, ho⟩
 ·rintro ⟨h0, ho⟩
  exact ⟨h0, fl l, ho, (reps_flat (R := k34.M w base (fun k => ok k ∧ some k ≠ V.ownBlock)) (fun x cs => kM) fx_len l _).2 rfl⟩
def InPost (w0 w : World) (V : Value) (ok : Nat → Prop) (r : List S34) (e : Ending) (w' : World) : Prop := ∃ V', e = .returned V' ∧ k34.R 34 w' w0.heap.size ok V' r ∧ Below w0.heap.size w0 w' ∧ w.grownBy w' V.ownBlock
/-- the cells that move one place up -/
def mid (cur : Array Value) (i n : Nat) : List Value := (cur.toList.drop (i * 5)).take ((n - i) * 5)
def row1 (cur : Array Value) (i n : Nat) : Array Value := (cur.toList.take ((i + 1) * 5) ++ mid cur i n ++ cur.toList.drop ((i + 1) * 5 + (mid cur i n).length)).toArray
def row2 (cur : Array Value) (i n : Nat) (x : S34) : Array Value := ((row1 cur i n).toList.take (i * 5) ++ fx x ++ (row1 cur i n).toList.drop (i * 5 + (fx x).length)).toArray
/-! ### no room: a new row -/
def zc (k : Nat) : Array Value := Builtin.zeroCells (.agg #[.string ⟨#[]⟩, .int .i64 0, .int .i64 0, .string ⟨#[]⟩, .bool false] : Value).cells k
def rowN (cur : Array Value) (i n G : Nat) : Array Value := (cur.toList.take (i * 5)).toArray ++ zc (n + 1 - i) ++ zc (G - (n + 1))
def rowA (cur : Array Value) (i n G : Nat) (x : S34) : Array Value := ((rowN cur i n G).toList.take (i * 5) ++ fx x ++ (rowN cur i n G).toList.drop (i * 5 + (fx x).length)).toArray
def rowB (cur : Array Value) (i n G : Nat) (x : S34) : Array Value := ((rowA cur i n G x).toList.take ((i + 1) * 5) ++ mid cur i n ++ (rowA cur i n G x).toList.drop ((i + 1) * 5 + (mid cur i n).length)).toArray
end Go.Proofs.YtldlkbjbfgieeaaGreatDoor.InN
