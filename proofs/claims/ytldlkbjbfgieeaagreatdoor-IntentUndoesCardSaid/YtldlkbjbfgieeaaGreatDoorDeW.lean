/- slices.Delete of one work: a row of the call's own. -/
import Derived.Test.YtldlkbjbfgieeaaGreatDoorInW
namespace Go.Proofs.YtldlkbjbfgieeaaGreatDoor.DeW
set_option linter.unusedVariables false
set_option linter.unusedSimpArgs false
open Go.RowKit Go.Proofs.YtldlkbjbfgieeaaGreatDoorW.PrintWords Go.Proofs.YtldlkbjbfgieeaaGreatDoorW.PrintLast Go.Proofs.YtldlkbjbfgieeaaGreatDoor.Mo Go.Proofs.YtldlkbjbfgieeaaGreatDoor.Q Go.Proofs.YtldlkbjbfgieeaaGreatDoor.Rw Go.Proofs.YtldlkbjbfgieeaaGreatDoor.InW
/-- the cells that move one place down -/
def tl (cur : Array Value) (i m : Nat) : List Value := (cur.toList.drop ((i + 1) * 6)).take ((m - i) * 6)
def dA (cur : Array Value) (i m : Nat) : Array Value := (cur.toList.take (i * 6) ++ tl cur i m ++ cur.toList.drop (i * 6 + (tl cur i m).length)).toArray
def dB (cur : Array Value) (i m : Nat) : Array Value := ((dA cur i m).toList.take (m * 6) ++ (zc 1).toList ++ (dA cur i m).toList.drop (m * 6 + (zc 1).toList.length)).toArray
theorem tl_len {cur : Array Value} {i m cap : Nat} (hsz : cur.size = cap * 6) (h : m + 1 ≤ cap) (hi : i ≤ m) : (tl cur i m).length = (m - i) * 6 := by
  unfold tl
  rw [List.length_take, List.length_drop, Array.length_toList, hsz]
  omega
theorem tl_get {cur : Array Value} {i m j : Nat} {v : Value} (h : (tl cur i m)[j]? = some v) : cur[(i + 1) * 6 + j]? = some v := by
  unfold tl at h
  rw [List.getElem?_take] at h
  split at h
  · rw [List.getElem?_drop, Array.getElem?_toList] at h; exact h
  · cases h
theorem dA_size {cur : Array Value} {i m cap : Nat} (hsz : cur.size = cap * 6) (h : m + 1 ≤ cap) (hi : i ≤ m) : (dA cur i m).size = cap * 6 := by
  unfold dA
  rw [List.size_toArray, List.length_append, List.length_append, List.length_take, List.length_drop, Array.length_toList, tl_len hsz h hi, hsz]
  omega
theorem zl : (zc 1).toList.length = 6 := by rw [Array.length_toList, zc_size]
theorem dB_size {cur : Array Value} {i m cap : Nat} (hsz : cur.size = cap * 6) (h : m + 1 ≤ cap) (hi : i ≤ m) : (dB cur i m).size = cap * 6 := by
  unfold dB
  rw [List.size_toArray, List.length_append, List.length_append, List.length_take, List.length_drop, zl, Array.length_toList, dA_size hsz h hi]
  omega
theorem tl_fl {cur : Array Value} {i m : Nat} {l : List S32} (hm : l.length = m + 1) (hi : i ≤ m) (hcur : cur.toList.take (l.length * 6) = fl l) : tl cur i m = fl (l.drop (i + 1)) := by
  unfold tl fl
  rw [flat_drop fx_len, show l.flatMap fx = fl l from rfl, ← hcur, List.drop_take]
  congr 1
  omega
theorem dB_take {cur : Array Value} {i m cap : Nat} {l : List S32} (hsz : cur.size = cap * 6) (h : m + 1 ≤ cap) (hi : i ≤ m) (hm : l.length = m + 1) (hcur : cur.toList.take (l.length * 6) = fl l) : (dB cur i m).toList.take (m * 6) = fl (l.take i ++ l.drop (i + 1)) := by
  have hcl : cur.toList.length = cap * 6 := by rw [Array.length_toList, hsz]
  have hA : (dA cur i m).toList.length = cap * 6 := by rw [Array.length_toList, dA_size hsz h hi]
  have e4 : cur.toList.take (i * 6) = fl (l.take i) := by
    unfold fl
    rw [flat_take fx_len, show l.flatMap fx = fl l from rfl, ← hcur, List.take_take, Nat.min_eq_left (by omega)]
  have e5 : fl (l.take i ++ l.drop (i + 1)) = fl (l.take i) ++ fl (l.drop (i + 1)) := by
    unfold fl
    rw [List.flatMap_append]
  have el : (fl (l.take i) ++ fl (l.drop (i + 1))).length = m * 6 := by
    rw [List.length_append, fl_len, fl_len, List.length_take, List.length_drop, hm]
    omega
  unfold dB
  show ((_ ++ _) ++ _ : List Value).take _ = _
  rw [List.append_assoc, List.take_append_of_le_length (by rw [List.length_take]; omega), List.take_take, Nat.min_self, e5]
  unfold dA
  rw [e4, tl_fl hm hi hcur]
  exact List.take_left' el
theorem zc_eq : (zc 1).toList = (#[.string ⟨#[]⟩, .int .i64 0, .int .i64 0, .int .i64 0, .int .i64 0, .string ⟨#[]⟩] : Array Value).toList := by kernel_rfl
theorem zc_one : ∀ v ∈ (zc 1).toList, v.oneCell' = true := by
  rw [zc_eq]
  simp [Value.oneCell']
theorem run_clear_one (w : World) (ty : TypeId) (g m c : Nat) (cur : Array Value) (hg : w.heap[g]? = some (.cells cur 32 (0, 0))) (hfit : m * 6 + 6 ≤ cur.size) :
    (Builtin.clear_ #[24] ty #[.slice (some ⟨g, m * 6, none⟩) 1 c]).run Tryz.prog w = .ok (.tuple #[]) (w.setRow g (cur.toList.take (m * 6) ++ (zc 1).toList ++ cur.toList.drop (m * 6 + (zc 1).toList.length)).toArray) := by
  have hv : ∀ w, (zeroValue 32).run Tryz.prog w = .ok (.agg #[.string ⟨#[]⟩, .int .i64 0, .int .i64 0, .int .i64 0, .int .i64 0, .string ⟨#[]⟩]) w := fun w => by kernel_rfl
  have h1 := zc_one
  have hst := run_storeCells_at Tryz.prog g (m * 6) 32 (zc 1).toList 0 cur w hg (by rw [zl]; simpa using hfit) h1
  simp only [Nat.add_zero] at hst
  have he : (Builtin.zeroCells (.agg #[.string ⟨#[]⟩, .int .i64 0, .int .i64 0, .int .i64 0, .int .i64 0, .string ⟨#[]⟩] : Value).cells 1).toList = (zc 1).toList := rfl
  simp [Builtin.clear_, run_underlying Tryz.underlying24, hv, he, hst]
theorem wpList_clear_run {P : Program} (w : World) {ops : Array Oper} {rest : List Oper} {o : Oper} {a : Act} {Q : Exit → Act → World → Prop} (hgd : o.guard = none) (x : Operand) (t : TypeId)
    (ho : o.op = .call { callee := .builtin .clear, args := #[x], argTypes := #[t] }) (v : Value) (hx : a.eval x = v) {v' : Value} {w' : World}
    (hr : (Builtin.clear_ #[t] o.type #[v]).run P w = .ok v' w') (h : wpList P ops Q rest (a.put o.dst v') w') : wpList P ops Q (o :: rest) a w :=
  wpList_plain hgd fun _ hK => by
    unfold Oper.wp execOp
    simp only [ho, resolve, invoke, builtin, Sem.run_bind, Sem.run_pure, Result.andThen_ok, List.map_toArray, List.map_cons, List.map_nil, hx, hr]
    exact hK _ _ h
theorem step_append_run {P : Program} {ops : Array Oper} {o : Oper} {a : Act} {w : World} {K : Act → World → Prop} {Q : Exit → Act → World → Prop} {E : Prop}
    (hg : o.guard = none) (d x : Operand) (dT sT : TypeId) (hop : o.op = Op.call { callee := Callee.builtin Builtin.append, args := #[d, x], argTypes := #[dT, sT] })
    (v u : Value) (hd : a.eval d = v) (hx : a.eval x = u) {v' : Value} {w' : World} (hr : (Builtin.append_ #[dT, sT] o.type #[v, u]).run P w = .ok v' w') (hK : K (a.put o.dst v') w') :
    if Region.wanted o (yielded ops a.tmps) = true then Oper.wp P o a w K Q else E := by
  have hw : Region.wanted o (yielded ops a.tmps) = true := by simp [Region.wanted, hg]
  rw [if_pos hw]
  unfold Oper.wp
  simp [execOp, hop, resolve, invoke, builtin, hd, hx, hr, Result.andThen]
  exact hK
set_option maxHeartbeats 4000000 in
set_option maxRecDepth 100000 in
theorem delete_walk (g cap m i : Nat) (cur : Array Value) (w : World) (hg : w.heap[g]? = some (.cells cur 32 (0, 0))) (hsz : cur.size = cap * 6) (hcap : cap ≤ 9223372036854775807) (hroom : m + 1 ≤ cap) (hi : i ≤ m) (h1c : ∀ v ∈ tl cur i m, v.oneCell' = true) :
    Calls Tryz.prog 75 #[.slice (some ⟨g, 0, none⟩) (m + 1) cap, .int .i64 i, .int .i64 ((i : Int) + 1)] w fun e w' => e = .returned (.slice (some ⟨g, 0, none⟩) m cap) ∧ w' = (w.drew.setRow g (dA cur i m)).setRow g (dB cur i m) := by
  obtain ⟨i0, hi0, hz0, hzs, hzb⟩ := info_parts info32
  have hA : (dA cur i m).size = cap * 6 := dA_size hsz hroom hi
  -- where s[i+1:] begins
  obtain ⟨A, hAe, hAc⟩ : ∃ A : Addr, (if cap = i + 1 then some (⟨g, 0, none⟩ : Addr) else some ⟨g, (i + 1) * 6, none⟩) = some A ∧ Hid (∀ j u, (tl cur i m)[j]? = some u → w.drew.cell? (A.add j) = some u) := by
    by_cases h : cap = i + 1
    · refine ⟨⟨g, 0, none⟩, by simp [h], fun j u hu => ?_⟩
      have h0 : (tl cur i m).length = 0 := by rw [tl_len hsz hroom hi]; omega
      rw [List.length_eq_zero_iff.1 h0] at hu
      simp at hu
    · refine ⟨⟨g, (i + 1) * 6, none⟩, by simp [h], fun j u hu => ?_⟩
      rw [Addr.add_lit]
      exact (blk_cell (blk_drew hg) _).trans (tl_get hu)
  have hap : ∀ ty sc, (Builtin.append_ #[24, 24] ty #[.slice (some ⟨g, 0, none⟩) i cap, .slice (some A) (m - i) sc]).run Tryz.prog w.drew = .ok (.slice (some ⟨g, 0, none⟩) m cap) (w.drew.setRow g (dA cur i m)) := fun ty sc => by
    have h := run_append_room (P := Tryz.prog) w.drew 24 ty 32 i0 Tryz.underlying24 hi0 g i cap cur (blk_drew hg) A (m - i) sc (tl cur i m) (by rw [hzs]; exact tl_len hsz hroom hi) hAc h1c (by omega) (by rw [hzs, tl_len hsz hroom hi, hsz]; omega)
    rw [hzs, show i + (m - i) = m by omega] at h
    exact h
  have hgA : (w.drew.setRow g (dA cur i m)).heap[g]? = some (.cells (dA cur i m) 32 (0, 0)) := setRow_heap w.drew g cur _ 32 _ hg
  have hcl : ∀ ty sc, (Builtin.clear_ #[24] ty #[.slice (some ⟨g, m * 6, none⟩) 1 sc]).run Tryz.prog (w.drew.setRow g (dA cur i m)) = .ok (.tuple #[]) ((w.drew.setRow g (dA cur i m)).setRow g (dB cur i m)) := fun ty sc => run_clear_one _ ty g m sc (dA cur i m) hgA (by rw [hA]; omega)
  generalize hW : w.drew.setRow g (dA cur i m) = W1 at *
  have p1 : (0 : Int) ≤ (i : Int) := by omega
  have p2 : (i : Int) ≤ (i : Int) + 1 := by omega
  have p3 : (i : Int) + 1 ≤ (m : Int) + 1 := by omega
  have p4 : (m : Int) + 1 ≤ (cap : Int) := by omega
  have p5 : (i : Int) ≤ (cap : Int) := by omega
  have p6 : ((i : Int) + 1).toNat = i + 1 := by omega
  have p7 : (0 : Int) ≤ (i : Int) + 1 := by omega
  have p8 : ¬ ((i : Int) = (i : Int) + 1) := by omega
  have p9 : (m : Int) ≤ (m : Int) + 1 := by omega
  have p10 : (0 : Int) ≤ (m : Int) := by omega
  have p11 : ¬ (cap = m) := by omega
  have p12 : (0 : Int) ≤ (m : Int) + 1 := by omega
  have p13 : (i : Int) ≤ (m : Int) + 1 := by omega
  replace hgA := Lib.hid hgA
  have hA' := Lib.hid hA
  have hsz' := Lib.hid hsz
  clear hA hsz
  go_enter Tryz.func75, Tryz.ntmps75
  go_wp2_with fail
  go_region_law (refine step_append_run rfl _ _ 24 24 rfl _ _ (by simp [Act.eval, Act.put]) (by simp [Act.eval, Act.put]) (hap _ (cap - (i + 1))) ?_)
  go_wp2_with (with_reducible refine wpList_clear_run _ rfl _ 24 rfl _ rfl (hcl _ _) ?_)
  go_ret
  exact ⟨rfl, rfl⟩
theorem delete_any (V : Value) (l : List S32) (i : Nat) (ok : Nat → Prop) (w0 w : World) (hB : Below w0.heap.size w0 w) (hR : k32.R 32 w w0.heap.size ok V l) (hi : i < l.length) :
    Calls Tryz.prog 75 #[V, .int .i64 i, .int .i64 ((i : Int) + 1)] w (InPost w0 w V ok (l.take i ++ l.drop (i + 1))) := by
  obtain ⟨hok, hown⟩ := R_iff.1 hR
  obtain ⟨m, hm⟩ : ∃ m, l.length = m + 1 := ⟨l.length - 1, by omega⟩
  rcases hown.2 with ⟨rfl, hn⟩ | ⟨g, cap, cur, rfl, hbg, hg, hnc, hcm, hsz, hcur⟩
  · omega
  · have hlen : (l.take i ++ l.drop (i + 1)).length = m := by rw [List.length_append, List.length_take, List.length_drop]; omega
    have h1c : ∀ v ∈ tl cur i m, v.oneCell' = true := by rw [tl_fl hm (by omega) hcur]; exact fl_one _
    have hroom : m + 1 ≤ cap := by omega
    have hi' : i ≤ m := by omega
    rw [hm]
    refine (delete_walk g cap m i cur w hg hsz (by unfold maxLen at hcm; exact hcm) hroom hi' h1c).mono ?_
    rintro e w' ⟨rfl, rfl⟩
    have h1 : (w.drew.setRow g (dA cur i m)).heap[g]? = some (.cells (dA cur i m) 32 (0, 0)) := setRow_heap w.drew g cur _ 32 _ hg
    have hG : w.grownBy ((w.drew.setRow g (dA cur i m)).setRow g (dB cur i m)) (some g) := by
      refine ⟨rfl, rfl, rfl, by simp, fun k _ hk => ?_⟩
      have hkg : k ≠ g := fun e => hk (by rw [e])
      exact (setRow_other _ g k _ hkg).trans (setRow_other w.drew g k _ hkg)
    refine ⟨_, rfl, R_iff.2 ⟨hok, ?_⟩, hB.grown hG hB.size (fun k e => by injection e with e; omega), hG⟩
    refine ⟨by rw [fl_len], .inr ⟨g, cap, dB cur i m, by rw [hlen], hbg, setRow_heap _ g _ _ 32 _ h1, by omega, hcm, dB_size hsz hroom hi', ?_⟩⟩
    rw [hlen]
    exact dB_take hsz hroom hi' hm hcur
end Go.Proofs.YtldlkbjbfgieeaaGreatDoor.DeW
namespace Go.Proofs.YtldlkbjbfgieeaaGreatDoor.DeN
set_option linter.unusedVariables false
set_option linter.unusedSimpArgs false
open Go.RowKit Go.Proofs.YtldlkbjbfgieeaaGreatDoorW.PrintWords Go.Proofs.YtldlkbjbfgieeaaGreatDoorW.PrintLast Go.Proofs.YtldlkbjbfgieeaaGreatDoor.Mo Go.Proofs.YtldlkbjbfgieeaaGreatDoor.Q Go.Proofs.YtldlkbjbfgieeaaGreatDoor.Rw Go.Proofs.YtldlkbjbfgieeaaGreatDoor.InN
/-- the cells that move one place down -/
def tl (cur : Array Value) (i m : Nat) : List Value := (cur.toList.drop ((i + 1) * 5)).take ((m - i) * 5)
def dA (cur : Array Value) (i m : Nat) : Array Value := (cur.toList.take (i * 5) ++ tl cur i m ++ cur.toList.drop (i * 5 + (tl cur i m).length)).toArray
def dB (cur : Array Value) (i m : Nat) : Array Value := ((dA cur i m).toList.take (m * 5) ++ (zc 1).toList ++ (dA cur i m).toList.drop (m * 5 + (zc 1).toList.length)).toArray
theorem tl_len {cur : Array Value} {i m cap : Nat} (hsz : cur.size = cap * 5) (h : m + 1 ≤ cap) (hi : i ≤ m) : (tl cur i m).length = (m - i) * 5 := by
  unfold tl
  rw [List.length_take, List.length_drop, Array.length_toList, hsz]
  omega
theorem tl_get {cur : Array Value} {i m j : Nat} {v : Value} (h : (tl cur i m)[j]? = some v) : cur[(i + 1) * 5 + j]? = some v := by
  unfold tl at h
  rw [List.getElem?_take] at h
  split at h
  · rw [List.getElem?_drop, Array.getElem?_toList] at h; exact h
  · cases h
theorem dA_size {cur : Array Value} {i m cap : Nat} (hsz : cur.size = cap * 5) (h : m + 1 ≤ cap) (hi : i ≤ m) : (dA cur i m).size = cap * 5 := by
  unfold dA
  rw [List.size_toArray, List.length_append, List.length_append, List.length_take, List.length_drop, Array.length_toList, tl_len hsz h hi, hsz]
  omega
theorem zl : (zc 1).toList.length = 5 := by rw [Array.length_toList, zc_size]
theorem dB_size {cur : Array Value} {i m cap : Nat} (hsz : cur.size = cap * 5) (h : m + 1 ≤ cap) (hi : i ≤ m) : (dB cur i m).size = cap * 5 := by
  unfold dB
  rw [List.size_toArray, List.length_append, List.length_append, List.length_take, List.length_drop, zl, Array.length_toList, dA_size hsz h hi]
  omega
theorem tl_fl {cur : Array Value} {i m : Nat} {l : List S34} (hm : l.length = m + 1) (hi : i ≤ m) (hcur : cur.toList.take (l.length * 5) = fl l) : tl cur i m = fl (l.drop (i + 1)) := by
  unfold tl fl
  rw [flat_drop fx_len, show l.flatMap fx = fl l from rfl, ← hcur, List.drop_take]
  congr 1
  omega
theorem dB_take {cur : Array Value} {i m cap : Nat} {l : List S34} (hsz : cur.size = cap * 5) (h : m + 1 ≤ cap) (hi : i ≤ m) (hm : l.length = m + 1) (hcur : cur.toList.take (l.length * 5) = fl l) : (dB cur i m).toList.take (m * 5) = fl (l.take i ++ l.drop (i + 1)) := by
  have hcl : cur.toList.length = cap * 5 := by rw [Array.length_toList, hsz]
  have hA : (dA cur i m).toList.length = cap * 5 := by rw [Array.length_toList, dA_size hsz h hi]
  have e4 : cur.toList.take (i * 5) = fl (l.take i) := by
    unfold fl
    rw [flat_take fx_len, show l.flatMap fx = fl l from rfl, ← hcur, List.take_take, Nat.min_eq_left (by omega)]
  have e5 : fl (l.take i ++ l.drop (i + 1)) = fl (l.take i) ++ fl (l.drop (i + 1)) := by
    unfold fl
    rw [List.flatMap_append]
  have el : (fl (l.take i) ++ fl (l.drop (i + 1))).length = m * 5 := by
    rw [List.length_append, fl_len, fl_len, List.length_take, List.length_drop, hm]
    omega
  unfold dB
  show ((_ ++ _) ++ _ : List Value).take _ = _
  rw [List.append_assoc, List.take_append_of_le_length (by rw [List.length_take]; omega), List.take_take, Nat.min_self, e5]
  unfold dA
  rw [e4, tl_fl hm hi hcur]
  exact List.take_left' el
theorem zc_eq : (zc 1).toList = (#[.string ⟨#[]⟩, .int .i64 0, .int .i64 0, .string ⟨#[]⟩, .bool false] : Array Value).toList := by kernel_rfl
theorem zc_one : ∀ v ∈ (zc 1).toList, v.oneCell' = true := by
  rw [zc_eq]
  simp [Value.oneCell']
theorem run_clear_one (w : World) (ty : TypeId) (g m c : Nat) (cur : Array Value) (hg : w.heap[g]? = some (.cells cur 34 (0, 0))) (hfit : m * 5 + 5 ≤ cur.size) :
    (Builtin.clear_ #[25] ty #[.slice (some ⟨g, m * 5, none⟩) 1 c]).run Tryz.prog w = .ok (.tuple #[]) (w.setRow g (cur.toList.take (m * 5) ++ (zc 1).toList ++ cur.toList.drop (m * 5 + (zc 1).toList.length)).toArray) := by
  have hv : ∀ w, (zeroValue 34).run Tryz.prog w = .ok (.agg #[.string ⟨#[]⟩, .int .i64 0, .int .i64 0, .string ⟨#[]⟩, .bool false]) w := fun w => by kernel_rfl
  have h1 := zc_one
  have hst := run_storeCells_at Tryz.prog g (m * 5) 34 (zc 1).toList 0 cur w hg (by rw [zl]; simpa using hfit) h1
  simp only [Nat.add_zero] at hst
  have he : (Builtin.zeroCells (.agg #[.string ⟨#[]⟩, .int .i64 0, .int .i64 0, .string ⟨#[]⟩, .bool false] : Value).cells 1).toList = (zc 1).toList := rfl
  simp [Builtin.clear_, run_underlying Tryz.underlying25, hv, he, hst]
theorem wpList_clear_run {P : Program} (w : World) {ops : Array Oper} {rest : List Oper} {o : Oper} {a : Act} {Q : Exit → Act → World → Prop} (hgd : o.guard = none) (x : Operand) (t : TypeId)
    (ho : o.op = .call { callee := .builtin .clear, args := #[x], argTypes := #[t] }) (v : Value) (hx : a.eval x = v) {v' : Value} {w' : World}
    (hr : (Builtin.clear_ #[t] o.type #[v]).run P w = .ok v' w') (h : wpList P ops Q rest (a.put o.dst v') w') : wpList P ops Q (o :: rest) a w :=
  wpList_plain hgd fun _ hK => by
    unfold Oper.wp execOp
    simp only [ho, resolve, invoke, builtin, Sem.run_bind, Sem.run_pure, Result.andThen_ok, List.map_toArray, List.map_cons, List.map_nil, hx, hr]
    exact hK _ _ h
theorem step_append_run {P : Program} {ops : Array Oper} {o : Oper} {a : Act} {w : World} {K : Act → World → Prop} {Q : Exit → Act → World → Prop} {E : Prop}
    (hg : o.guard = none) (d x : Operand) (dT sT : TypeId) (hop : o.op = Op.call { callee := Callee.builtin Builtin.append, args := #[d, x], argTypes := #[dT, sT] })
    (v u : Value) (hd : a.eval d = v) (hx : a.eval x = u) {v' : Value} {w' : World} (hr : (Builtin.append_ #[dT, sT] o.type #[v, u]).run P w = .ok v' w') (hK : K (a.put o.dst v') w') :
    if Region.wanted o (yielded ops a.tmps) = true then Oper.wp P o a w K Q else E := by
  have hw : Region.wanted o (yielded ops a.tmps) = true := by simp [Region.wanted, hg]
  rw [if_pos hw]
  unfold Oper.wp
  simp [execOp, hop, resolve, invoke, builtin, hd, hx, hr, Result.andThen]
  exact hK
set_option maxHeartbeats 4000000 in
set_option maxRecDepth 100000 in
theorem delete_walk (g cap m i : Nat) (cur : Array Value) (w : World) (hg : w.heap[g]? = some (.cells cur 34 (0, 0))) (hsz : cur.size = cap * 5) (hcap : cap ≤ 9223372036854775807) (hroom : m + 1 ≤ cap) (hi : i ≤ m) (h1c : ∀ v ∈ tl cur i m, v.oneCell' = true) :
    Calls Tryz.prog 76 #[.slice (some ⟨g, 0, none⟩) (m + 1) cap, .int .i64 i, .int .i64 ((i : Int) + 1)] w fun e w' => e = .returned (.slice (some ⟨g, 0, none⟩) m cap) ∧ w' = (w.drew.setRow g (dA cur i m)).setRow g (dB cur i m) := by
  obtain ⟨i0, hi0, hz0, hzs, hzb⟩ := info_parts info34
  have hA : (dA cur i m).size = cap * 5 := dA_size hsz hroom hi
  -- where s[i+1:] begins
  obtain ⟨A, hAe, hAc⟩ : ∃ A : Addr, (if cap = i + 1 then some (⟨g, 0, none⟩ : Addr) else some ⟨g, (i + 1) * 5, none⟩) = some A ∧ Hid (∀ j u, (tl cur i m)[j]? = some u → w.drew.cell? (A.add j) = some u) := by
    by_cases h : cap = i + 1
    · refine ⟨⟨g, 0, none⟩, by simp [h], fun j u hu => ?_⟩
      have h0 : (tl cur i m).length = 0 := by rw [tl_len hsz hroom hi]; omega
      rw [List.length_eq_zero_iff.1 h0] at hu
      simp at hu
    · refine ⟨⟨g, (i + 1) * 5, none⟩, by simp [h], fun j u hu => ?_⟩
      rw [Addr.add_lit]
      exact (blk_cell (blk_drew hg) _).trans (tl_get hu)
  have hap : ∀ ty sc, (Builtin.append_ #[25, 25] ty #[.slice (some ⟨g, 0, none⟩) i cap, .slice (some A) (m - i) sc]).run Tryz.prog w.drew = .ok (.slice (some ⟨g, 0, none⟩) m cap) (w.drew.setRow g (dA cur i m)) := fun ty sc => by
    have h := run_append_room (P := Tryz.prog) w.drew 25 ty 34 i0 Tryz.underlying25 hi0 g i cap cur (blk_drew hg) A (m - i) sc (tl cur i m) (by rw [hzs]; exact tl_len hsz hroom hi) hAc h1c (by omega) (by rw [hzs, tl_len hsz hroom hi, hsz]; omega)
    rw [hzs, show i + (m - i) = m by omega] at h
    exact h
  have hgA : (w.drew.setRow g (dA cur i m)).heap[g]? = some (.cells (dA cur i m) 34 (0, 0)) := setRow_heap w.drew g cur _ 34 _ hg
  have hcl : ∀ ty sc, (Builtin.clear_ #[25] ty #[.slice (some ⟨g, m * 5, none⟩) 1 sc]).run Tryz.prog (w.drew.setRow g (dA cur i m)) = .ok (.tuple #[]) ((w.drew.setRow g (dA cur i m)).setRow g (dB cur i m)) := fun ty sc => run_clear_one _ ty g m sc (dA cur i m) hgA (by rw [hA]; omega)
  generalize hW : w.drew.setRow g (dA cur i m) = W1 at *
  have p1 : (0 : Int) ≤ (i : Int) := by omega
  have p2 : (i : Int) ≤ (i : Int) + 1 := by omega
  have p3 : (i : Int) + 1 ≤ (m : Int) + 1 := by omega
  have p4 : (m : Int) + 1 ≤ (cap : Int) := by omega
  have p5 : (i : Int) ≤ (cap : Int) := by omega
  have p6 : ((i : Int) + 1).toNat = i + 1 := by omega
  have p7 : (0 : Int) ≤ (i : Int) + 1 := by omega
  have p8 : ¬ ((i : Int) = (i : Int) + 1) := by omega
  have p9 : (m : Int) ≤ (m : Int) + 1 := by omega
  have p10 : (0 : Int) ≤ (m : Int) := by omega
  have p11 : ¬ (cap = m) := by omega
  have p12 : (0 : Int) ≤ (m : Int) + 1 := by omega
  have p13 : (i : Int) ≤ (m : Int) + 1 := by omega
  replace hgA := Lib.hid hgA
  have hA' := Lib.hid hA
  have hsz' := Lib.hid hsz
  clear hA hsz
  go_enter Tryz.func76, Tryz.ntmps76
  go_wp2_with fail
  go_region_law (refine step_append_run rfl _ _ 25 25 rfl _ _ (by simp [Act.eval, Act.put]) (by simp [Act.eval, Act.put]) (hap _ (cap - (i + 1))) ?_)
  go_wp2_with (with_reducible refine wpList_clear_run _ rfl _ 25 rfl _ rfl (hcl _ _) ?_)
  go_ret
  exact ⟨rfl, rfl⟩
theorem delete_any (V : Value) (l : List S34) (i : Nat) (ok : Nat → Prop) (w0 w : World) (hB : Below w0.heap.size w0 w) (hR : k34.R 34 w w0.heap.size ok V l) (hi : i < l.length) :
    Calls Tryz.prog 76 #[V, .int .i64 i, .int .i64 ((i : Int) + 1)] w (InPost w0 w V ok (l.take i ++ l.drop (i + 1))) := by
  obtain ⟨hok, hown⟩ := R_iff.1 hR
  obtain ⟨m, hm⟩ : ∃ m, l.length = m + 1 := ⟨l.length - 1, by omega⟩
  rcases hown.2 with ⟨rfl, hn⟩ | ⟨g, cap, cur, rfl, hbg, hg, hnc, hcm, hsz, hcur⟩
  · omega
  · have hlen : (l.take i ++ l.drop (i + 1)).length = m := by rw [List.length_append, List.length_take, List.length_drop]; omega
    have h1c : ∀ v ∈ tl cur i m, v.oneCell' = true := by rw [tl_fl hm (by omega) hcur]; exact fl_one _
    have hroom : m + 1 ≤ cap := by omega
    have hi' : i ≤ m := by omega
    rw [hm]
    refine (delete_walk g cap m i cur w hg hsz (by unfold maxLen at hcm; exact hcm) hroom hi' h1c).mono ?_
    rintro e w' ⟨rfl, rfl⟩
    have h1 : (w.drew.setRow g (dA cur i m)).heap[g]? = some (.cells (dA cur i m) 34 (0, 0)) := setRow_heap w.drew g cur _ 34 _ hg
    have hG : w.grownBy ((w.drew.setRow g (dA cur i m)).setRow g (dB cur i m)) (some g) := by
      refine ⟨rfl, rfl, rfl, by simp, fun k _ hk => ?_⟩
      have hkg : k ≠ g := fun e => hk (by rw [e])
      exact (setRow_other _ g k _ hkg).trans (setRow_other w.drew g k _ hkg)
    refine ⟨_, rfl, R_iff.2 ⟨hok, ?_⟩, hB.grown hG hB.size (fun k e => by injection e with e; omega), hG⟩
    refine ⟨by rw [fl_len], .inr ⟨g, cap, dB cur i m, by rw [hlen], hbg, setRow_heap _ g _ _ 34 _ h1, by omega, hcm, dB_size hsz hroom hi', ?_⟩⟩
    rw [hlen]
    exact dB_take hsz hroom hi' hm hcur
end Go.Proofs.YtldlkbjbfgieeaaGreatDoor.DeN
