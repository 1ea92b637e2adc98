/- place.Right, intent.Right, intent.rightOp: what they compute. -/
import Derived.Test.YtldlkbjbfgieeaaGreatDoorQx45
import Derived.Test.YtldlkbjbfgieeaaGreatDoorQx48
import Derived.Test.YtldlkbjbfgieeaaGreatDoorCb
import Derived.Lib.Hide
namespace Go.Proofs.YtldlkbjbfgieeaaGreatDoor.Ri
set_option linter.unusedVariables false
set_option linter.unusedSimpArgs false
open Go.RowKit Go.Proofs.YtldlkbjbfgieeaaGreatDoorW.PrintWords Go.Proofs.YtldlkbjbfgieeaaGreatDoorW.PrintLast Go.Proofs.YtldlkbjbfgieeaaGreatDoor.Mo Go.Proofs.YtldlkbjbfgieeaaGreatDoor.Q Go.Proofs.YtldlkbjbfgieeaaGreatDoor.Nm Go.Proofs.YtldlkbjbfgieeaaGreatDoor.Gn Go.Proofs.YtldlkbjbfgieeaaGreatDoor.Ll Go.Proofs.YtldlkbjbfgieeaaGreatDoor.Lb Go.Proofs.YtldlkbjbfgieeaaGreatDoor.Cb
abbrev W := S32
abbrev N := S34
theorem wrapS (i : Nat) (h : i < 9223372036854775807) : wrap64 ((i : Int) + 1) = ((i + 1 : Nat) : Int) := by unfold wrap64; omega
/-! ### labels -/
/-- one after the other: keys and values that are names, keys rising -/
def labsGo : List ByteArray → ByteArray → Bool
  | [], _ => true
  | p :: l, last => (cutS p).2.2 && nm (cutS p).1 && nm (cutS p).2.1 && lt last (cutS p).1 && labsGo l (cutS p).1
def labS (s : ByteArray) : Bool := labsGo (partsS s) ByteArray.empty && decide ((partsS s).length ≤ 4)
theorem drop_rd (l : List ByteArray) (i : Nat) (h : i < l.length) : l.drop i = rdOf ByteArray.empty l (i : Int) :: l.drop (i + 1) := by
  rw [List.drop_eq_getElem_cons h]
  unfold rdOf
  rw [Int.toNat_natCast, List.getD_eq_getElem?_getD, List.getElem?_eq_getElem h]; rfl
theorem labs_l (L : List ByteArray) (hL : L.length < 9223372036854775807) (hp : ∀ p ∈ L, p.size < 4294967281) : ∀ (d i k : Nat) (last : ByteArray), i + d = L.length → d + 1 ≤ k → label_IsLabels.l0 k L last L (L.length : Int) (i : Int) = some (labsGo (L.drop i) last && decide (L.length ≤ 4))
  | 0, i, k, last, h1, h2 => by
    obtain ⟨k, rfl⟩ : ∃ m, k = m + 1 := ⟨k - 1, by omega⟩
    unfold label_IsLabels.l0
    rw [if_neg (by omega), List.drop_eq_nil_of_le (by omega)]
    have : decide ((L.length : Int) ≤ 4) = decide (L.length ≤ 4) := by rw [Bool.eq_iff_iff]; simp; omega
    rw [this]; simp [labsGo]
  | d + 1, i, k, last, h1, h2 => by
    obtain ⟨k, rfl⟩ : ∃ m, k = m + 1 := ⟨k - 1, by omega⟩
    have hi : i < L.length := by omega
    have ih := labs_l L hL hp d (i + 1) k
    have hd := drop_rd L i hi
    have hm : rdOf ByteArray.empty L (i : Int) ∈ L := by
      have : rdOf ByteArray.empty L (i : Int) ∈ L.drop i := by rw [hd]; exact List.mem_cons_self
      exact List.mem_of_mem_drop this
    have hsz := hp _ hm
    unfold label_IsLabels.l0
    rw [if_pos (by omega), if_pos (by omega), if_pos (by omega), wrapS i (by omega), hd]
    generalize rdOf ByteArray.empty L (i : Int) = p at *
    have hc : strings_Cut.f p (⟨#[61]⟩ : ByteArray) = some (cutS p) := if_pos ⟨by decide +kernel, hsz⟩
    rw [hc, Option.bind_some]
    unfold labsGo
    cases h1 : (cutS p).2.2 with
    | false => rw [if_neg (by decide)]; simp
    | true =>
      rw [if_pos rfl, show label_IsName.f (cutS p).1 = some (nm (cutS p).1) from rfl, Option.bind_some]
      cases h2 : nm (cutS p).1 with
      | false => rw [if_neg (by decide)]; simp
      | true =>
        rw [if_pos rfl, show label_IsName.f (cutS p).2.1 = some (nm (cutS p).2.1) from rfl, Option.bind_some]
        cases h3 : nm (cutS p).2.1 with
        | false => rw [if_neg (by decide)]; simp
        | true =>
          rw [if_pos rfl]
          cases h4 : lt last (cutS p).1 with
          | false => rw [if_neg (by rw [show Op.bytesLess last.toList (cutS p).1.toList = false from h4]; decide)]; simp
          | true => rw [if_pos (show Op.bytesLess last.toList (cutS p).1.toList = true from h4), ih _ (by omega) (by omega)]; simp
theorem labels_eq (s : ByteArray) (hs : s.size < 4294967281) : ∃ K, ∀ k, K ≤ k → label_IsLabels.f k s = some (labS s) := by
  have hp : ∀ p ∈ partsS s, p.size < 4294967281 := fun p hp => by have := parts_size hp; omega
  have hl := parts_len s
  refine ⟨(partsS s).length + 1, fun k hk => ?_⟩
  unfold label_IsLabels.f
  rw [show label_parts.f s = some (partsS s) from if_pos hs, Option.bind_some]
  have := labs_l (partsS s) (by omega) hp (partsS s).length 0 k ByteArray.empty (by omega) hk
  rw [List.drop_zero] at this
  exact this
/-! ### workloads, nodes, problems -/
def inB (n low high : Int) : Bool := decide (low ≤ n) && decide (n ≤ high)
theorem within_eq (n low high : Int) : place_within.f n low high = some (inB n low high) := by
  unfold place_within.f inB
  by_cases h : n ≥ low
  · rw [if_pos h, decide_eq_true (show low ≤ n by omega)]; simp
  · rw [if_neg h, decide_eq_false (show ¬ low ≤ n by omega)]; simp
def rightW (x : W) : Bool := nm x.f0 && selS x.f5 && inB x.f1 0 16 && inB x.f2 0 9 && inB x.f3 1 16 && inB x.f4 1 16
def rightN (y : N) : Bool := nm y.f0 && labS y.f3 && inB y.f1 0 2 && inB y.f2 0 4
theorem work_eq (x : W) (h : x.f5.size < 4294967281) : place_rightWork.f x.f0 x.f1 x.f2 x.f3 x.f4 x.f5 = some (rightW x) := by
  unfold place_rightWork.f rightW
  rw [show label_IsName.f x.f0 = some (nm x.f0) from rfl, Option.bind_some]
  cases h1 : nm x.f0 with
  | false => rw [if_neg (by decide)]; simp
  | true =>
    rw [if_pos rfl, show label_IsSelector.f x.f5 = some (selS x.f5) from if_pos h, Option.bind_some]
    cases h2 : selS x.f5 with
    | false => rw [if_neg (by decide)]; simp
    | true =>
      rw [if_pos rfl, within_eq, Option.bind_some]
      cases h3 : inB x.f1 0 16 with
      | false => rw [if_neg (by decide)]; simp
      | true =>
        rw [if_pos rfl, within_eq, Option.bind_some]
        cases h4 : inB x.f2 0 9 with
        | false => rw [if_neg (by decide)]; simp
        | true =>
          rw [if_pos rfl, within_eq, Option.bind_some]
          cases h5 : inB x.f3 1 16 with
          | false => rw [if_neg (by decide)]; simp
          | true => rw [if_pos rfl, within_eq]; simp
theorem node_eq (y : N) (h : y.f3.size < 4294967281) : ∃ K, ∀ k, K ≤ k → place_rightNode.f k y.f0 y.f1 y.f2 y.f3 y.f4 = some (rightN y) := by
  obtain ⟨K, hK⟩ := labels_eq y.f3 h
  refine ⟨K, fun k hk => ?_⟩
  unfold place_rightNode.f rightN
  rw [show label_IsName.f y.f0 = some (nm y.f0) from rfl, Option.bind_some]
  cases h1 : nm y.f0 with
  | false => rw [if_neg (by decide)]; simp
  | true =>
    rw [if_pos rfl, hK k hk, Option.bind_some]
    cases h2 : labS y.f3 with
    | false => rw [if_neg (by decide)]; simp
    | true =>
      rw [if_pos rfl, within_eq, Option.bind_some]
      cases h3 : inB y.f1 0 2 with
      | false => rw [if_neg (by decide)]; simp
      | true => rw [if_pos rfl, within_eq]; simp
def goW : List W → ByteArray → Bool
  | [], _ => true
  | x :: l, last => rightW x && lt last x.f0 && goW l x.f0
def goN : List N → ByteArray → Bool
  | [], _ => true
  | y :: l, last => rightN y && lt last y.f0 && goN l y.f0
def rightP (ws : List W) (ns : List N) : Bool := decide (ws.length ≤ 8) && decide (ns.length ≤ 8) && goW ws ByteArray.empty && goN ns ByteArray.empty
/-- texts are not of great size -/
def Small (ws : List W) (ns : List N) : Prop := (∀ x ∈ ws, x.f5.size < 4294967281) ∧ ∀ y ∈ ns, y.f3.size < 4294967281
theorem dropW (l : List W) (i : Nat) (h : i < l.length) : l.drop i = rd_T32 l (i : Int) :: l.drop (i + 1) := by
  rw [List.drop_eq_getElem_cons h]
  unfold rd_T32
  rw [Int.toNat_natCast, List.getD_eq_getElem?_getD, List.getElem?_eq_getElem h]; rfl
theorem dropN (l : List N) (i : Nat) (h : i < l.length) : l.drop i = rd_T34 l (i : Int) :: l.drop (i + 1) := by
  rw [List.drop_eq_getElem_cons h]
  unfold rd_T34
  rw [Int.toNat_natCast, List.getD_eq_getElem?_getD, List.getElem?_eq_getElem h]; rfl
theorem l1_eq (ns : List N) (hn : ns.length ≤ 8) (hs : ∀ y ∈ ns, y.f3.size < 4294967281) : ∀ (d i : Nat) (last : ByteArray), i + d = ns.length → ∃ K, ∀ k, K ≤ k → place_Right.l1 k last ns (ns.length : Int) (i : Int) = some (goN (ns.drop i) last)
  | 0, i, last, h1 => by
    refine ⟨1, fun k hk => ?_⟩
    obtain ⟨k, rfl⟩ : ∃ m, k = m + 1 := ⟨k - 1, by omega⟩
    unfold place_Right.l1
    rw [if_neg (by omega), List.drop_eq_nil_of_le (by omega)]; rfl
  | d + 1, i, last, h1 => by
    have hi : i < ns.length := by omega
    have hd := dropN ns i hi
    have hm : rd_T34 ns (i : Int) ∈ ns := List.mem_of_mem_drop (show _ ∈ ns.drop i by rw [hd]; exact List.mem_cons_self)
    obtain ⟨K1, hK1⟩ := l1_eq ns hn hs d (i + 1) (rd_T34 ns (i : Int)).f0 (by omega)
    obtain ⟨K2, hK2⟩ := node_eq _ (hs _ hm)
    refine ⟨K1 + K2 + 1, fun k hk => ?_⟩
    obtain ⟨k, rfl⟩ : ∃ m, k = m + 1 := ⟨k - 1, by omega⟩
    unfold place_Right.l1
    rw [if_pos (by omega), if_pos (by omega), if_pos (by omega), wrapS i (by omega), hd, hK2 k (by omega), Option.bind_some]
    unfold goN
    cases h2 : rightN (rd_T34 ns (i : Int)) with
    | false => rw [if_neg (by decide)]; simp
    | true =>
      rw [if_pos rfl]
      cases h4 : lt last (rd_T34 ns (i : Int)).f0 with
      | false => rw [if_neg (by rw [show Op.bytesLess last.toList (rd_T34 ns (i : Int)).f0.toList = false from h4]; decide)]; simp
      | true => rw [if_pos (show Op.bytesLess last.toList (rd_T34 ns (i : Int)).f0.toList = true from h4), hK1 k (by omega)]; simp
theorem l0_eq (ws : List W) (ns : List N) (hw : ws.length ≤ 8) (hn : ns.length ≤ 8) (hs : Small ws ns) : ∀ (d i : Nat) (last : ByteArray), i + d = ws.length → ∃ K, ∀ k, K ≤ k → place_Right.l0 k last ws (ws.length : Int) (i : Int) ws ns = some (goW (ws.drop i) last && goN ns ByteArray.empty)
  | 0, i, last, h1 => by
    obtain ⟨K, hK⟩ := l1_eq ns hn hs.2 ns.length 0 ByteArray.empty (by omega)
    refine ⟨K + 1, fun k hk => ?_⟩
    obtain ⟨k, rfl⟩ : ∃ m, k = m + 1 := ⟨k - 1, by omega⟩
    unfold place_Right.l0
    have := hK k (by omega)
    rw [List.drop_zero] at this
    rw [if_neg (by omega), List.drop_eq_nil_of_le (by omega)]
    exact this
  | d + 1, i, last, h1 => by
    have hi : i < ws.length := by omega
    have hd := dropW ws i hi
    have hm : rd_T32 ws (i : Int) ∈ ws := List.mem_of_mem_drop (show _ ∈ ws.drop i by rw [hd]; exact List.mem_cons_self)
    obtain ⟨K1, hK1⟩ := l0_eq ws ns hw hn hs d (i + 1) (rd_T32 ws (i : Int)).f0 (by omega)
    refine ⟨K1 + 1, fun k hk => ?_⟩
    obtain ⟨k, rfl⟩ : ∃ m, k = m + 1 := ⟨k - 1, by omega⟩
    unfold place_Right.l0
    rw [if_pos (by omega), if_pos (by omega), if_pos (by omega), wrapS i (by omega), hd, work_eq _ (hs.1 _ hm), Option.bind_some]
    unfold goW
    cases h2 : rightW (rd_T32 ws (i : Int)) with
    | false => rw [if_neg (by decide)]; simp
    | true =>
      rw [if_pos rfl]
      cases h4 : lt last (rd_T32 ws (i : Int)).f0 with
      | false => rw [if_neg (by rw [show Op.bytesLess last.toList (rd_T32 ws (i : Int)).f0.toList = false from h4]; decide)]; simp
      | true => rw [if_pos (show Op.bytesLess last.toList (rd_T32 ws (i : Int)).f0.toList = true from h4), hK1 k (by omega)]; simp
theorem place_eq (ws : List W) (ns : List N) (hs : Small ws ns) : ∃ K, ∀ k, K ≤ k → place_Right.f k ws ns = some (rightP ws ns) := by
  unfold rightP place_Right.f
  by_cases h1 : ws.length ≤ 8
  · by_cases h2 : ns.length ≤ 8
    · obtain ⟨K, hK⟩ := l0_eq ws ns h1 h2 hs ws.length 0 ByteArray.empty (by omega)
      refine ⟨K + 1, fun k hk => ?_⟩
      obtain ⟨k, rfl⟩ : ∃ m, k = m + 1 := ⟨k - 1, by omega⟩
      have := hK k (by omega)
      rw [List.drop_zero] at this
      rw [if_neg (by omega), decide_eq_false (show ¬ (ns.length : Int) > 8 by omega), place_Right.j0, if_neg (by decide), decide_eq_true h1, decide_eq_true h2]
      exact this
    · refine ⟨1, fun k hk => ?_⟩
      obtain ⟨k, rfl⟩ : ∃ m, k = m + 1 := ⟨k - 1, by omega⟩
      rw [if_neg (by omega), decide_eq_true (show (ns.length : Int) > 8 by omega), place_Right.j0, if_pos rfl, decide_eq_true h1, decide_eq_false h2]; rfl
  · refine ⟨1, fun k hk => ?_⟩
    obtain ⟨k, rfl⟩ : ∃ m, k = m + 1 := ⟨k - 1, by omega⟩
    rw [if_pos (by omega), place_Right.j0, if_pos rfl, decide_eq_false h1]; rfl
def rightS (e : Int) (ws : List W) (ns : List N) : Bool := decide (0 ≤ e) && decide (e ≤ 1099511627776) && rightP ws ns
def rightO (k : Int) (x : W) (y : N) (id : ByteArray) (want : Int) : Bool :=
  if k = 1 then rightP [x] [] else if k = 4 then rightP [] [y] else if k = 2 then nm id && inB want 0 16 else if k = 3 then nm id else if k = 5 then nm id else if k = 6 then nm id else if k = 7 then nm id else decide (k = 8)
theorem op_eq (k : Int) (x : W) (y : N) (id : ByteArray) (want : Int) (hx : x.f5.size < 4294967281) (hy : y.f3.size < 4294967281) : ∃ K, intent_rightOp.f K k x.f0 x.f1 x.f2 x.f3 x.f4 x.f5 y.f0 y.f1 y.f2 y.f3 y.f4 id want = some (rightO k x y id want) := by
  obtain ⟨K1, hK1⟩ := place_eq [x] [] ⟨fun z hz => by rw [List.mem_singleton.1 hz]; exact hx, fun z hz => by cases hz⟩
  obtain ⟨K2, hK2⟩ := place_eq [] [y] ⟨fun z hz => by (cases hz), fun z hz => by rw [List.mem_singleton.1 hz]; exact hy⟩
  refine ⟨K1 + K2, ?_⟩
  unfold intent_rightOp.f rightO
  rw [hK1 _ (by omega), hK2 _ (by omega)]
  by_cases h1 : k = 1
  · rw [if_pos h1, if_pos h1]; rfl
  rw [if_neg h1, if_neg h1]
  by_cases h4 : k = 4
  · rw [if_pos h4, if_pos h4]; rfl
  rw [if_neg h4, if_neg h4]
  by_cases h2 : k = 2
  · rw [if_pos h2, if_pos h2, show label_IsName.f id = some (nm id) from rfl, Option.bind_some]
    cases nm id with
    | false => rfl
    | true =>
      rw [if_pos rfl]; unfold inB
      by_cases hw : want ≥ 0
      · rw [if_pos hw, decide_eq_true (show 0 ≤ want by omega)]; simp
      · rw [if_neg hw, decide_eq_false (show ¬ 0 ≤ want by omega)]; simp
  rw [if_neg h2, if_neg h2]
  by_cases h3 : k = 3
  · rw [if_pos h3, if_pos h3]; rfl
  rw [if_neg h3, if_neg h3]
  by_cases h5 : k = 5
  · rw [if_pos h5, if_pos h5]; rfl
  rw [if_neg h5, if_neg h5]
  by_cases h6 : k = 6
  · rw [if_pos h6, if_pos h6]; rfl
  rw [if_neg h6, if_neg h6]
  by_cases h7 : k = 7
  · rw [if_pos h7, if_pos h7]; rfl
  rw [if_neg h7, if_neg h7]
  first | rfl | (congr 1; done) | (congr 1; rw [Bool.eq_iff_iff]; simp)
/-! ### the walks -/
abbrev stV (e : Int) (A : Option Addr) (n c : Nat) (B : Option Addr) (m d : Nat) : Value := .agg #[.int .i64 e, .slice A n c, .slice B m d]
theorem problem_any (e : Int) (A B : Option Addr) (n c m d : Nat) (w : World) :
    Calls Tryz.prog 38 #[stV e A n c B m d] w fun r w' => r = .returned (.agg #[.slice A n c, .slice B m d]) ∧ Below w.heap.size w w' := by
  have HB := below_alloc (below_alloc (Below.refl w.heap.size w) (.cells #[.int .i64 e, .slice A n c, .slice B m d] 27)) (.cells #[.slice A n c, .slice B m d] 67)
  have hG := blk_new (w.alloc (.cells #[.int .i64 e, .slice A n c, .slice B m d] 27)) (.cells #[.slice A n c, .slice B m d] 67)
  have hG' := Lib.hid hG
  clear hG
  go_enter Tryz.func38, Tryz.ntmps38
  go_wp2_with fail
  refine bodyPost_ret (results_cell_row rfl _ _ (w.heap.size + 1) 67 #[.slice A n c, .slice B m d] (0, 0) _ rfl (by simpa using hG'.out) Tryz.underlying67 rfl (by kernel_rfl)) rfl ?_
  exact ⟨rfl, HB⟩
theorem right_any (e : Int) (A B : Option Addr) (c d : Nat) (ws : List W) (ns : List N) (w : World) (hA : Kd.C k32 w A ws.length ws) (hc : ws.length ≤ c) (hB : Kd.C k34 w B ns.length ns) (hd : ns.length ≤ d) (hs : Small ws ns) :
    Calls Tryz.prog 14 #[stV e A ws.length c B ns.length d] w fun r w' => r = .returned (.bool (rightS e ws ns)) ∧ Below w.heap.size w w' := by
  obtain ⟨K, hK⟩ := place_eq ws ns hs
  have HB := below_alloc (Below.refl w.heap.size w) (.cells #[.int .i64 e, .slice A ws.length c, .slice B ns.length d] 27)
  unfold rightS
  by_cases h1 : 0 ≤ e
  · by_cases h2 : e ≤ 1099511627776
    · have d1 : decide (0 ≤ e) = true := decide_eq_true h1
      have d2 : decide (e ≤ 1099511627776) = true := decide_eq_true h2
      rw [d1, d2]
      have hP := fun W (hA) (hB) => place_Right.calls K A c ws B d ns (rightP ws ns) W hA hc hB hd (hK K (Nat.le_refl _))
      have hP' := Lib.hid hP
      clear hP hK
      go_enter Tryz.func14, Tryz.ntmps14
      go_wp2_with fail
      refine (problem_any e A B ws.length c ns.length d _).mono ?_; rintro r w1 ⟨rfl, hb1⟩
      have HB1 := below_then HB HB.size hb1
      go_wp2_with fail
      refine (hP'.out _ (Kd.C_below hA HB1) (Kd.C_below hB HB1)).mono ?_; rintro r w2 ⟨rfl, hb2⟩
      go_wp2_with fail
      go_ret
      exact ⟨by simp, below_then HB1 HB1.size hb2⟩
    · have d1 : decide (0 ≤ e) = true := decide_eq_true h1
      have d2 : decide (e ≤ 1099511627776) = false := decide_eq_false h2
      rw [d1, d2]
      go_enter Tryz.func14, Tryz.ntmps14
      go_wp2_with fail
      go_ret
      exact ⟨by simp, HB⟩
  · have d1 : decide (0 ≤ e) = false := decide_eq_false h1
    rw [d1]
    go_enter Tryz.func14, Tryz.ntmps14
    go_wp2_with fail
    go_ret
    exact ⟨by simp, HB⟩
end Go.Proofs.YtldlkbjbfgieeaaGreatDoor.Ri
