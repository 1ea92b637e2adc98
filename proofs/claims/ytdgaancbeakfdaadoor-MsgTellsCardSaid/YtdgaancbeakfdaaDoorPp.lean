/- msg.Put: what is laid, and that it is laid. -/
import Derived.Test.YtdgaancbeakfdaaDoorPt
import Derived.Test.YtdgaancbeakfdaaDoorFth
import Derived.Test.YtdgaancbeakfdaaDoorRt
import Derived.Deep.RegionHeld3
import Derived.Laws.Concat
namespace Go.Proofs.YtdgaancbeakfdaaDoor.Pp
open Go.RowKit Go.Shelf Go.Proofs.YtdgaancbeakfdaaDoorW.PrintWords Go.Proofs.YtdgaancbeakfdaaDoor.Num Go.Proofs.YtdgaancbeakfdaaDoor.Vrd Go.Proofs.YtdgaancbeakfdaaDoor.Fth Go.Proofs.YtdgaancbeakfdaaDoor.Giv Go.Proofs.YtdgaancbeakfdaaDoor.Q Go.Proofs.YtdgaancbeakfdaaDoor.Rt Go.Proofs.YtdgaancbeakfdaaDoor.Bw Go.Proofs.YtdgaancbeakfdaaDoor.Pt
set_option linter.unusedVariables false
set_option linter.unusedSimpArgs false
/-- a bind's bytes -/
def bindB (x : S42) : ByteArray := text x.f0 ++ text x.f1 ++ num x.f2
def bindsB : List S42 → ByteArray
  | [] => ByteArray.empty
  | x :: xs => bindB x ++ bindsB xs
/-- what a message's frame bears -/
def payload (a0 a1 a2 a3 a4 a5 : Int) (l : List S42) : ByteArray := nums [a0, a1, a2, a3, a4, a5, (l.length : Int)] ++ bindsB l
theorem bindsB_append : ∀ xs ys : List S42, bindsB (xs ++ ys) = bindsB xs ++ bindsB ys
  | [], ys => by simp [bindsB]
  | x :: xs, ys => by simp [bindsB, bindsB_append xs ys, ByteArray.append_assoc]
theorem bindsB_snoc (l : List S42) (i : Nat) (h : i < l.length) : bindsB (l.take (i + 1)) = bindsB (l.take i) ++ bindB l[i] := by
  rw [List.take_succ_eq_append_getElem h, bindsB_append]
  simp [bindsB]
theorem text_size' (s : ByteArray) : (text s).size ≤ s.size + 10 := by
  unfold text; rw [ByteArray.size_append]; have := num_le s.size; omega
theorem ok_sizes {x : S42} (h : okB x = true) : x.f0.size ≤ 12 ∧ x.f1.size ≤ 12 ∧ 1 ≤ x.f2 ∧ x.f2 ≤ 1000 := by
  unfold okB Nm.nm at h
  simp only [Bool.and_eq_true, decide_eq_true_eq] at h
  exact ⟨h.1.1.2, h.2.1.1.2, h.2.2.1, h.2.2.2⟩
theorem bindB_size {x : S42} (h : okB x = true) : (bindB x).size ≤ 54 := by
  obtain ⟨h1, h2, h3, h4⟩ := ok_sizes h
  have t1 := text_size' x.f0
  have t2 := text_size' x.f1
  have t3 := num_le x.f2
  unfold bindB
  rw [ByteArray.size_append, ByteArray.size_append]; omega
theorem bindsB_size : ∀ l : List S42, (∀ x ∈ l, okB x = true) → (bindsB l).size ≤ 54 * l.length
  | [], _ => by simp [bindsB]
  | x :: xs, h => by
    have h1 := bindB_size (h x List.mem_cons_self)
    have h2 := bindsB_size xs (fun y hy => h y (List.mem_cons_of_mem _ hy))
    simp only [bindsB, ByteArray.size_append, List.length_cons]; omega
theorem goods_ok (l : List S42) : ∀ (d i : Nat), goods l i d = true → ∀ j, i ≤ j → j < i + d → okB (at42 l j) = true
  | 0, i, _, j, h1, h2 => by omega
  | d + 1, i, h, j, h1, h2 => by
    unfold goods good at h
    simp only [Bool.and_eq_true] at h
    by_cases e : j = i
    · subst e; exact h.1.1
    · exact goods_ok l d (i + 1) h.2 j (by omega) (by omega)
/-- what a message that may be has -/
theorem right_in {a0 a1 a2 a3 a4 a5 : Int} {l : List S42} (h : rightS a0 a1 a2 a3 a4 a5 l = true) : ((a0 = 1 ∨ a0 = 2) ∧ (0 ≤ a1 ∧ a1 ≤ 2) ∧ (0 ≤ a2 ∧ a2 ≤ 1099511627776) ∧ (0 ≤ a3 ∧ a3 ≤ 1099511627776) ∧ (0 ≤ a4 ∧ a4 ≤ 1099511627776) ∧ (-2199023255552 ≤ a5 ∧ a5 ≤ 2199023255552)) ∧ l.length ≤ 64 ∧ ∀ x ∈ l, okB x = true := by
  unfold rightS ranges at h
  simp only [Bool.and_eq_true, decide_eq_true_eq] at h
  obtain ⟨⟨h0, h1, h2, h3, h4, h5⟩, h6, h7⟩ := h
  refine ⟨⟨h0, h1, h2, h3, h4, h5⟩, h6, fun x hx => ?_⟩
  obtain ⟨j, hj, rfl⟩ := List.getElem_of_mem hx
  have := goods_ok l l.length 0 h7 j (Nat.zero_le _) (by omega)
  unfold at42 at this
  rw [List.getD_eq_getElem?_getD, List.getElem?_eq_getElem hj] at this
  exact this
theorem payload_size {a0 a1 a2 a3 a4 a5 : Int} {l : List S42} (h : rightS a0 a1 a2 a3 a4 a5 l = true) : (payload a0 a1 a2 a3 a4 a5 l).size ≤ 3526 := by
  obtain ⟨_, h1, h2⟩ := right_in h
  have n1 := nums_size [a0, a1, a2, a3, a4, a5, (l.length : Int)]
  have n2 := bindsB_size l h2
  unfold payload
  rw [ByteArray.size_append]
  simp only [List.length_cons, List.length_nil] at n1
  omega
/-- msg.Put's answer, in the print's own form -/
def msg_Put.f (a0 a1 a2 a3 a4 a5 : Int) (l : List S42) : Option (ByteArray × Int) := if rightS a0 a1 a2 a3 a4 a5 l = true then some (fr (payload a0 a1 a2 a3 a4 a5 l), 0) else some ((⟨#[]⟩ : ByteArray), 160)
theorem right_calls (a0 a1 a2 a3 a4 a5 : Int) (A : Option Addr) (c : Nat) (l : List S42) (w : World) (hr : Kd.C k42 w A l.length l) (hc : l.length ≤ c) :
    Calls Tryd.prog 8 #[.agg #[.int .i64 a0, .int .i64 a1, .int .i64 a2, .int .i64 a3, .int .i64 a4, .int .i64 a5, .slice A l.length c]] w fun e w' => e = .returned (.bool (rightS a0 a1 a2 a3 a4 a5 l)) ∧ Below w.heap.size w w' := by
  have hl : l.length ≤ 9223372036854775807 := Kd.C_max hr
  exact msg_Right.calls (l.length + 12) a0 a1 a2 a3 a4 a5 A c l (rightS a0 a1 a2 a3 a4 a5 l) w hr hc (msg_right_eq l hl a0 a1 a2 a3 a4 a5)
set_option maxHeartbeats 8000000 in
set_option maxRecDepth 100000 in
theorem put_no (a0 a1 a2 a3 a4 a5 : Int) (A : Option Addr) (c : Nat) (l : List S42) (w : World) (hr : Kd.C k42 w A l.length l) (hc : l.length ≤ c) (hR : rightS a0 a1 a2 a3 a4 a5 l = false) :
    Calls Tryd.prog 9 #[.agg #[.int .i64 a0, .int .i64 a1, .int .i64 a2, .int .i64 a3, .int .i64 a4, .int .i64 a5, .slice A l.length c]] w fun e w' => e = .returned (.tuple #[.string ⟨#[]⟩, .int .i64 160]) ∧ Below w.heap.size w w' := by
  have HA := below_alloc (Below.refl w.heap.size w) (.cells #[.int .i64 a0, .int .i64 a1, .int .i64 a2, .int .i64 a3, .int .i64 a4, .int .i64 a5, .slice A l.length c] 24)
  have hrA := Kd.C_below hr HA
  go_enter Tryd.func9, Tryd.ntmps9
  go_wp2_with fail
  refine (right_calls a0 a1 a2 a3 a4 a5 A c l _ hrA hc).mono ?_; rintro ee w1 ⟨rfl, hb1⟩
  rw [hR]
  have HB := HA.trans (hb1.mono HA.size)
  go_wp2_with fail
  go_ret2
  exact ⟨rfl, HB⟩
theorem text_c (s : ByteArray) (hs : s.size ≤ 12) (w : World) : Calls Tryd.prog 22 #[.string s] w fun e w' => e = .returned (.string (text s)) ∧ Below w.heap.size w w' := varint_Text.calls s (text s) w (Textf s (by omega))
theorem rd_ok {l : List S42} {i : Nat} (h : i < l.length) : rd_T42 l (i : Int) = l[i] := by
  unfold rd_T42
  rw [Int.toNat_natCast, List.getD_eq_getElem?_getD, List.getElem?_eq_getElem h]; rfl
set_option maxHeartbeats 8000000 in
set_option maxRecDepth 100000 in
theorem put_yes (a0 a1 a2 a3 a4 a5 : Int) (A : Option Addr) (c : Nat) (l : List S42) (w : World) (hr : Kd.C k42 w A l.length l) (hc : l.length ≤ c) (hR : rightS a0 a1 a2 a3 a4 a5 l = true) :
    Calls Tryd.prog 9 #[.agg #[.int .i64 a0, .int .i64 a1, .int .i64 a2, .int .i64 a3, .int .i64 a4, .int .i64 a5, .slice A l.length c]] w fun e w' => e = .returned (.tuple #[.string (fr (payload a0 a1 a2 a3 a4 a5 l)), .int .i64 0]) ∧ Below w.heap.size w w' := by
  have HA := below_alloc (Below.refl w.heap.size w) (.cells #[.int .i64 a0, .int .i64 a1, .int .i64 a2, .int .i64 a3, .int .i64 a4, .int .i64 a5, .slice A l.length c] 24)
  have hO := blk_new w (.cells #[.int .i64 a0, .int .i64 a1, .int .i64 a2, .int .i64 a3, .int .i64 a4, .int .i64 a5, .slice A l.length c] 24)
  have hrA := Kd.C_below hr HA
  have hps := payload_size hR
  replace hps := Aside0.mk hps
  go_enter Tryd.func9, Tryd.ntmps9
  go_wp2_with fail
  refine (right_calls a0 a1 a2 a3 a4 a5 A c l _ hrA hc).mono ?_; rintro ee w1 ⟨rfl, hb1⟩
  rw [hR]
  have hO1 := blk_below hO hb1
  have hr1 := Kd.C_below hrA hb1
  have HB1 := HA.trans (hb1.mono HA.size)
  have hO1lt := blk_lt hO1
  have hs1 := HB1.size
  obtain ⟨hrg, hl64, hok⟩ := right_in hR
  replace hok := Aside0.mk hok
  clear hR
  generalize hg : w.heap.size = g at *
  clear hO hrA hb1 HA hr
  have HBl := below_alloc (Below.refl w1.heap.size w1) (.cells #[.pointer none, .slice none 0 0] 48)
  have hbl := blk_new w1 (.cells #[.pointer none, .slice none 0 0] 48)
  have hO2 := blk_below hO1 HBl
  have hr2 := Kd.C_below hr1 HBl
  have m0 := (blk_cell hO2 0).trans rfl
  have m1 := (blk_cell hO2 1).trans rfl
  have m2 := (blk_cell hO2 2).trans rfl
  have m3 := (blk_cell hO2 3).trans rfl
  have m4 := (blk_cell hO2 4).trans rfl
  have m5 := (blk_cell hO2 5).trans rfl
  have m6 := (blk_cell hO2 6).trans rfl
  go_wp2_with fail
  have HBm := below_alloc HBl (.cells #[.int .i64 a0, .int .i64 a1, .int .i64 a2, .int .i64 a3, .int .i64 a4, .int .i64 a5, .int .i64 (l.length : Int)] 3)
  have hbm := blk_alloc hbl (.cells #[.int .i64 a0, .int .i64 a1, .int .i64 a2, .int .i64 a3, .int .i64 a4, .int .i64 a5, .int .i64 (l.length : Int)] 3)
  have hN : ((w1.alloc (.cells #[.pointer none, .slice none 0 0] 48)).alloc (.cells #[.int .i64 a0, .int .i64 a1, .int .i64 a2, .int .i64 a3, .int .i64 a4, .int .i64 a5, .int .i64 (l.length : Int)] 3)).heap[w1.heap.size + 1]? = some (.cells #[.int .i64 a0, .int .i64 a1, .int .i64 a2, .int .i64 a3, .int .i64 a4, .int .i64 a5, .int .i64 (l.length : Int)] 3 (0, 0)) := by
    have := blk_new (w1.alloc (.cells #[.pointer none, .slice none 0 0] 48)) (.cells #[.int .i64 a0, .int .i64 a1, .int .i64 a2, .int .i64 a3, .int .i64 a4, .int .i64 a5, .int .i64 (l.length : Int)] 3)
    simpa using this
  clear m0 m1 m2 m3 m4 m5 m6 HBl hbl hO2 hr2
  revert HBm hbm hN
  generalize (w1.alloc (.cells #[.pointer none, .slice none 0 0] 48)).alloc (.cells #[.int .i64 a0, .int .i64 a1, .int .i64 a2, .int .i64 a3, .int .i64 a4, .int .i64 a5, .int .i64 (l.length : Int)] 3) = w2
  intro HBm hbm hN
  generalize hB : w1.heap.size = B at *
  have hbl0 : Lib.IsBuilder 48 5 B B (Lib.strCells ByteArray.empty) w2 := Or.inl ⟨Nat.le_refl _, .slice none 0 0, hbm, ⟨rfl, .inl ⟨rfl, rfl⟩⟩, by simp [Value.ownBlock]⟩
  have hB2 : B ≤ w2.heap.size := by have := blk_lt hbm; omega
  have hx7 : ∀ x ∈ [a0, a1, a2, a3, a4, a5, (l.length : Int)], -9223372036854775808 ≤ x ∧ x ≤ 9223372036854775807 := by
    intro x hx
    simp only [List.mem_cons, List.not_mem_nil, or_false] at hx
    rcases hx with rfl | rfl | rfl | rfl | rfl | rfl | rfl <;> omega
  refine (put_any B B ByteArray.empty (B + 1) [a0, a1, a2, a3, a4, a5, (l.length : Int)] w2 (Wr.refl hbl0) hN hx7 (by simp) (by decide) hB2).mono ?_; rintro ee w3 ⟨rfl, HW3⟩
  rw [show ByteArray.empty ++ nums [a0, a1, a2, a3, a4, a5, (l.length : Int)] = nums [a0, a1, a2, a3, a4, a5, (l.length : Int)] from by simp] at HW3
  have hn7 := nums_size [a0, a1, a2, a3, a4, a5, (l.length : Int)]
  simp only [List.length_cons, List.length_nil] at hn7
  have hpay : payload a0 a1 a2 a3 a4 a5 l = nums [a0, a1, a2, a3, a4, a5, (l.length : Int)] ++ bindsB l := rfl
  replace hpay := Aside0.mk hpay
  generalize nums [a0, a1, a2, a3, a4, a5, (l.length : Int)] = s7 at *
  have HBa : ∀ w', Wr B B w2 w' s7 → True := fun _ _ => trivial
  clear HBa hbm hN hbl0 hx7
  have hr3 : ∀ w', Below B w2 w' → Kd.C k42 w' A l.length l := fun w' hb => Kd.C_below hr1 (by rw [hB]; exact HBm.trans hb)
  have hO3 : ∀ w', Below B w2 w' → w'.heap[g]? = some (.cells #[.int .i64 a0, .int .i64 a1, .int .i64 a2, .int .i64 a3, .int .i64 a4, .int .i64 a5, .slice A l.length c] 24 (0, 0)) := fun w' hb => ((HBm.trans hb).block g (by omega)).trans hO1
  have HBf : ∀ w', Below B w2 w' → Below g w w' := fun w' hb => HB1.trans ((HBm.trans hb).mono (by omega))
  clear hr1 hO1 HB1 HBm
  have m6 := (blk_cell (hO3 w3 HW3.2.1) 6).trans rfl
  replace hr3 := Aside0.mk hr3
  replace hO3 := Aside0.mk hO3
  replace HBf := Aside0.mk HBf
  replace HW3 := Aside0.mk HW3
  go_wp2_with fail
  clear m6
  go_loopg [32] l.length (fun kq v32 w' => ∃ i : Nat, v32 = .int .i64 (i : Int) ∧ i + kq = l.length ∧ Aside0 (Wr B B w2 w' (s7 ++ bindsB (l.take i))))
  case atStart => exact ⟨0, rfl, by omega, Aside0.mk (by simpa [bindsB] using HW3.out)⟩
  case round =>
    obtain ⟨i, rfl, hik, HW⟩ := hrel
    clear HW3
    by_cases h1 : i < l.length
    · obtain ⟨m, rfl⟩ : ∃ m, gk = m + 1 := ⟨gk - 1, by omega⟩
      have d1 : decide ((i : Int) < (l.length : Int)) = true := by simp; exact h1
      have p1 : 0 ≤ (i : Int) := by omega
      have q1 : (i : Int) < (l.length : Int) := by omega
      have e1 : (i : Int).toNat = i := Int.toNat_natCast i
      obtain ⟨ad, rfl, hx0, hx1, hx2⟩ := at_T42 (hr3.out wr HW.out.2.1) (i : Int) p1 q1
      rw [e1, rd_ok h1] at hx0 hx1 hx2
      have hox := hok.out _ (List.getElem_mem h1)
      have hsn := bindsB_snoc l i h1
      replace hsn := Aside0.mk hsn
      have hbs := bindsB_size (l.take i) (fun x hx => hok.out x (List.mem_of_mem_take hx))
      have hb1 := bindB_size hox
      obtain ⟨z0, z1, z2, z3⟩ := ok_sizes hox
      have htl : (l.take i).length ≤ 64 := by rw [List.length_take]; omega
      have hwr := HW.out.size
      generalize hX : l[i] = X at *
      clear hX
      replace p1 := eq_true p1
      replace q1 := eq_true q1
      go_wp2_with fail
      have HWa := HW.out.below (by omega) (below_alloc (Below.refl _ _) (.cells #[.string X.f0, .string X.f1, .int .i64 X.f2] 42))
      have hXa := blk_new wr (.cells #[.string X.f0, .string X.f1, .int .i64 X.f2] 42)
      have hsa : B ≤ (wr.alloc (.cells #[.string X.f0, .string X.f1, .int .i64 X.f2] 42)).heap.size := by simp; omega
      have hob : wr.heap.size ≠ B := by have := HW.out.1; rcases this with ⟨_, v, hb, _⟩ | ⟨_, v, hb, _⟩ <;> (have := blk_lt hb; omega)
      clear hx0 hx1 hx2 HW
      have c0 := (blk_cell hXa 0).trans rfl
      have c1 := (blk_cell hXa 1).trans rfl
      revert HWa hXa hsa hob c0 c1
      generalize wr.alloc (.cells #[.string X.f0, .string X.f1, .int .i64 X.f2] 42) = wa
      generalize wr.heap.size = o
      intro HWa hXa hsa hob c0 c1
      have t0 := text_size' X.f0
      have t1 := text_size' X.f1
      have hbB : bindB X = text X.f0 ++ text X.f1 ++ num X.f2 := rfl
      replace hbB := Aside0.mk hbB
      have tc0 := text_c X.f0 z0
      have tc1 := text_c X.f1 z1
      generalize text X.f0 = T0 at *
      generalize text X.f1 = T1 at *
      have hTT : T0.size + T1.size ≤ 9223372036854775807 := by omega
      have hadd : ∀ w : World, (Op.stringOp .add T0 T1).run Tryd.prog w = .ok (.string (T0 ++ T1)) w := fun w => run_string_add_sum w T0 T1 hTT
      have hsx : (s7 ++ bindsB (l.take i)).size + (T0 ++ T1).size ≤ 140737488355328 := by rw [ByteArray.size_append, ByteArray.size_append]; omega
      have hsy : (s7 ++ bindsB (l.take i) ++ (T0 ++ T1)).size ≤ 100000000 := by rw [ByteArray.size_append, ByteArray.size_append, ByteArray.size_append]; omega
      replace tc0 := Aside0.mk tc0
      replace tc1 := Aside0.mk tc1
      go_region_held3 (fun w' => w'.cell? ⟨o, 0, none⟩ = some (.string X.f0) ∧ w'.cell? ⟨o, 1, none⟩ = some (.string X.f1)) (first | exact ⟨c0, c1⟩ | exact ⟨c04, c14⟩ | exact ⟨c05, c15⟩ | exact ⟨c06, c16⟩) (first | (go_at_call 22; refine (tc0.out _).mono ?_; rintro e w4 ⟨rfl, hb4⟩; have H4 := (HWa.drew hsa).below hsa hb4; have hs4 := hb4.size; have hX4 := blk_below (blk_drew hXa) hb4; have c04 := (blk_cell hX4 0).trans rfl; have c14 := (blk_cell hX4 1).trans rfl) | (go_at_call 22; refine (tc1.out _).mono ?_; rintro e w5 ⟨rfl, hb5⟩; have H5 := H4.below (Nat.le_trans hsa hs4) hb5; have hs5 := hb5.size; have hX5 := blk_below hX4 hb5; have c05 := (blk_cell hX5 0).trans rfl; have c15 := (blk_cell hX5 1).trans rfl) | (go_at_call 21; refine (write_s B B (s7 ++ bindsB (l.take i)) (T0 ++ T1) w2 _ H5 hsx (Nat.le_trans hsa (Nat.le_trans hs4 hs5))).mono ?_; rintro e w6 ⟨rfl, H6, hk6⟩; have hX6 := hk6.2 o _ _ hX5 (by decide) hob; have c06 := (blk_cell hX6 0).trans rfl; have c16 := (blk_cell hX6 1).trans rfl))
      rw [ByteArray.append_assoc] at H6
      have hc2 := (blk_cell hX6 2).trans rfl
      have hB6 : B ≤ w6.heap.size := Nat.le_trans (Nat.le_trans hsa (Nat.le_trans hs4 hs5)) hk6.1
      have HW6 := Aside0.mk H6
      clear H6 H4 H5 HWa hXa hX4 hX5 c0 c1 c04 c14 c05 c15 c06 c16 hb4 hb5
      go_wp2_with fail
      have HW7 := (HW6.out).below hB6 (below_alloc (Below.refl _ _) (.cells #[.int .i64 X.f2] 3))
      have hN7 := blk_new w6 (.cells #[.int .i64 X.f2] 3)
      have hsy' : (s7 ++ (bindsB (l.take i) ++ (T0 ++ T1))).size ≤ 100000000 := by rw [← ByteArray.append_assoc]; exact hsy
      refine (put_any B B (s7 ++ (bindsB (l.take i) ++ (T0 ++ T1))) w6.heap.size [X.f2] _ (Wr.refl HW7.1) hN7 (by intro x hx; simp at hx; subst hx; omega) (by simp) hsy' (by simp; omega)).mono ?_; rintro ee w8 ⟨rfl, H8⟩
      have H9 := HW7.trans H8
      have en : Pt.nums [X.f2] = num X.f2 := by simp [Pt.nums]
      have ea : s7 ++ (bindsB (l.take i) ++ (T0 ++ T1)) ++ num X.f2 = s7 ++ (bindsB (l.take i) ++ (T0 ++ T1 ++ num X.f2)) := by simp only [ByteArray.append_assoc]
      rw [en, ea, ← hbB.out, ← hsn.out] at H9
      clear H8 HW6 HW7 hX6 hc2 hN7 en ea
      go_wp2_with fail
      go_roundg m
      case measure => omega
      case rel => exact ⟨i + 1, by rw [Int.natCast_add]; rfl, by omega, Aside0.mk H9⟩
    · have d1 : decide ((i : Int) < (l.length : Int)) = false := by simp; omega
      have et : l.take i = l := List.take_of_length_le (by omega)
      rw [et, ← hpay.out] at HW
      have hwr := HW.out.size
      go_wp2_with fail
      refine (Sh.Tryd.Builder_String_any B B (payload a0 a1 a2 a3 a4 a5 l).data.toList wr (by have := HW.out.1; rwa [Lib.strCells_eq] at this) (by omega)).mono ?_; rintro ee w8 ⟨rfl, hb8⟩
      rw [show (⟨(payload a0 a1 a2 a3 a4 a5 l).data.toList.toArray⟩ : ByteArray) = payload a0 a1 a2 a3 a4 a5 l from by simp]
      have HB8 := HW.out.2.1.trans hb8
      clear HW hb8
      generalize hp : payload a0 a1 a2 a3 a4 a5 l = p at *
      replace hp := Aside0.mk hp
      have hs8 : B ≤ w8.heap.size := Nat.le_trans hB2 HB8.size
      go_wp2_with fail
      refine (frame_Lay.calls 5000 p (fr p) 0 w8 (Lay_eq 5000 p (by have := hps.out; omega) (by omega))).mono ?_; rintro ee w9 ⟨rfl, hb9⟩
      have HB9 := HBf.out w9 (HB8.trans (hb9.mono hs8))
      go_wp2_with fail
      go_ret2
      exact ⟨by rw [hp.out]; rfl, by rw [hg]; exact HB9⟩
end Go.Proofs.YtdgaancbeakfdaaDoor.Pp
