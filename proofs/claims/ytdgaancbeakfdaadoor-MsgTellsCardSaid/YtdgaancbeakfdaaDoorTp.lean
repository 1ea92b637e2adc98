/- The document's Put and Get come to what the program's come to (plain law). -/
import Derived.Test.YtdgaancbeakfdaaDoorRb
import Derived.Test.YtdgaancbeakfdaaDoorRg
import Derived.Test.YtdgaancbeakfdaaDoorQy8
import Derived.Test.YtdgaancbeakfdaaDoorQx78
namespace Go.Proofs.YtdgaancbeakfdaaDoor.Tp
open Go.RowKit Go.Proofs.YtdgaancbeakfdaaDoorW.PrintWords Go.Proofs.YtdgaancbeakfdaaDoorW.PrintLast Go.Proofs.YtdgaancbeakfdaaDoor.Mo Go.Proofs.YtdgaancbeakfdaaDoor.Num Go.Proofs.YtdgaancbeakfdaaDoor.Vth Go.Proofs.YtdgaancbeakfdaaDoor.Vrd Go.Proofs.YtdgaancbeakfdaaDoor.Fth Go.Proofs.YtdgaancbeakfdaaDoor.Fbk Go.Proofs.YtdgaancbeakfdaaDoor.Giv Go.Proofs.YtdgaancbeakfdaaDoor.Q Go.Proofs.YtdgaancbeakfdaaDoor.Rt Go.Proofs.YtdgaancbeakfdaaDoor.Pp Go.Proofs.YtdgaancbeakfdaaDoor.Gp Go.Proofs.YtdgaancbeakfdaaDoor.Rd Go.Proofs.YtdgaancbeakfdaaDoor.Rrd Go.Proofs.YtdgaancbeakfdaaDoor.Tells Go.Proofs.YtdgaancbeakfdaaDoor.Rb
set_option linter.unusedVariables false
set_option linter.unusedSimpArgs false
theorem rd_at' (l : List S42) (i : Nat) (h : i < l.length) : rd_T42 l (i : Int) = l[i] := by
  unfold rd_T42
  rw [Int.toNat_natCast, List.getD_eq_getElem?_getD, List.getElem?_eq_getElem h]; rfl
theorem wr64 (i : Nat) (h : i ≤ 1000) : wrap64 ((i : Int) + 1) = ((i + 1 : Nat) : Int) := by unfold wrap64; omega
/-! ### Put -/
theorem rput_l1 (a0 a1 a2 a3 a4 a5 : Int) (l : List S42) (hl : l.length ≤ 64) (hok : ∀ x ∈ l, okB x = true) (pre : ByteArray) (hp : (pre ++ bindsB l).size ≤ 4096) : ∀ d i k, i + d = l.length → d + 5100 ≤ k → billetref16_Put.l1 k (pre ++ bindsB (l.take i)) (i : Int) a0 a1 a2 a3 a4 a5 l = some (fr (pre ++ bindsB l), 0)
  | 0, i, k, h1, h2 => by
    obtain ⟨k, rfl⟩ : ∃ m, k = m + 1 := ⟨k - 1, by omega⟩
    rw [billetref16_Put.l1, if_neg (by omega), List.take_of_length_le (by omega), rLay_eq k _ hp (by omega)]; rfl
  | d + 1, i, k, h1, h2 => by
    obtain ⟨k, rfl⟩ : ∃ m, k = m + 1 := ⟨k - 1, by omega⟩
    have hi : i < l.length := by omega
    have ih := rput_l1 a0 a1 a2 a3 a4 a5 l hl hok pre hp d (i + 1) k (by omega) (by omega)
    have hs := bindsB_snoc l i hi
    obtain ⟨z0, z1, z2, z3⟩ := ok_sizes (hok _ (List.getElem_mem hi))
    have t0 := text_size' (l[i]).f0
    have t1 := text_size' (l[i]).f1
    have t2 := num_size_bd (l[i]).f2
    have hb := bindsB_size (l.take i) (fun x hx => hok x (List.mem_of_mem_take hx))
    have hlt : (l.take i).length ≤ 64 := by rw [List.length_take]; omega
    have hps : pre.size ≤ 4096 := by rw [ByteArray.size_append] at hp; omega
    rw [billetref16_Put.l1, if_pos (by omega), if_pos (by omega), rd_at' l i hi]
    rw [rText_eq k (by omega) _ (by omega), Option.bind_some, if_pos (by rw [ByteArray.size_append]; omega)]
    rw [rText_eq k (by omega) _ (by omega), Option.bind_some, if_pos (by rw [ByteArray.size_append, ByteArray.size_append]; omega)]
    rw [ref_num k (by omega) _ (by omega) (by omega), Option.bind_some, if_pos (by rw [ByteArray.size_append, ByteArray.size_append, ByteArray.size_append]; omega), wr64 i (by omega)]
    rw [hs] at ih
    unfold bindB at ih
    simp only [ByteArray.append_assoc] at ih ⊢
    exact ih
theorem rput_l0 (a0 a1 a2 a3 a4 a5 : Int) (l : List S42) (xs : List Int) (hxs : ∀ x ∈ xs, -9223372036854775808 ≤ x ∧ x ≤ 9223372036854775807) (hx7 : xs.length ≤ 7) (hl : l.length ≤ 64) (hok : ∀ x ∈ l, okB x = true) (hp : (Pt.nums xs ++ bindsB l).size ≤ 4096) : ∀ d i k, i + d = xs.length → d + 5300 ≤ k → billetref16_Put.l0 k xs (Pt.nums (xs.take i)) (i : Int) a0 a1 a2 a3 a4 a5 l = some (fr (Pt.nums xs ++ bindsB l), 0)
  | 0, i, k, h1, h2 => by
    obtain ⟨k, rfl⟩ : ∃ m, k = m + 1 := ⟨k - 1, by omega⟩
    rw [billetref16_Put.l0, if_neg (by omega), List.take_of_length_le (by omega)]
    have := rput_l1 a0 a1 a2 a3 a4 a5 l hl hok (Pt.nums xs) hp l.length 0 k (by omega) (by omega)
    rw [List.take_zero, bindsB, show Pt.nums xs ++ ByteArray.empty = Pt.nums xs from by simp] at this
    exact this
  | d + 1, i, k, h1, h2 => by
    obtain ⟨k, rfl⟩ : ∃ m, k = m + 1 := ⟨k - 1, by omega⟩
    have hi : i < xs.length := by omega
    have ih := rput_l0 a0 a1 a2 a3 a4 a5 l xs hxs hx7 hl hok hp d (i + 1) k (by omega) (by omega)
    have hs := Pt.nums_snoc xs i hi
    have hr := hxs _ (List.getElem_mem hi)
    have hn := Pt.nums_size (xs.take i)
    have hlt : (xs.take i).length ≤ 7 := by rw [List.length_take]; omega
    have t2 := num_size_bd xs[i]
    have hrd : rd xs (i : Int) = xs[i] := by unfold rd; rw [Int.toNat_natCast, List.getD_eq_getElem?_getD, List.getElem?_eq_getElem hi]; rfl
    rw [billetref16_Put.l0, if_pos (by omega), if_pos (by omega), hrd, ref_num k (by omega) _ hr.1 hr.2, Option.bind_some, if_pos (by omega), wr64 i (by omega), ← hs]
    exact ih
/-- the document's Put -/
theorem rput (a0 a1 a2 a3 a4 a5 : Int) (l : List S42) (k : Nat) (hk : 2 * l.length + 5400 ≤ k) : billetref16_Put.f k a0 a1 a2 a3 a4 a5 l = msg_Put.f a0 a1 a2 a3 a4 a5 l := by
  have hrr := at_rounds (fun k => billetref16_Right.mono a0 a1 a2 a3 a4 a5 l k) (show 2 * l.length + 22 ≤ k by omega) (ref_right_eq l a0 a1 a2 a3 a4 a5)
  unfold billetref16_Put.f msg_Put.f
  rw [hrr, Option.bind_some]
  cases hR : rightS a0 a1 a2 a3 a4 a5 l with
  | false => rw [if_neg (by decide), if_neg (by decide)]
  | true =>
    rw [if_pos rfl, if_pos rfl]
    obtain ⟨hrg, hl, hok⟩ := right_in hR
    have hps := payload_size hR
    have hx : ∀ x ∈ [a0, a1, a2, a3, a4, a5, (l.length : Int)], -9223372036854775808 ≤ x ∧ x ≤ 9223372036854775807 := by
      intro x hx
      simp only [List.mem_cons, List.not_mem_nil, or_false] at hx
      rcases hx with rfl | rfl | rfl | rfl | rfl | rfl | rfl <;> omega
    exact rput_l0 a0 a1 a2 a3 a4 a5 l _ hx (by simp) hl hok (by unfold payload at hps; omega) 7 0 k (by simp) (by omega)
/-! ### the document's reader -/
def qN (r : ByteArray) (b : Bool) : Int × ByteArray × Bool := if b = true then (0, r, true) else rout r (dec 0 0 (bytesOf r))
theorem qN_le (r : ByteArray) (b : Bool) : (qN r b).2.1.size ≤ r.size := by
  unfold qN
  split
  · exact Nat.le_refl _
  · cases dec 0 0 (bytesOf r) with
    | none => exact Nat.le_refl _
    | some q => simp only [rout, ByteArray.size_extract]; omega
theorem RN (r : ByteArray) (b : Bool) (hr : r.size ≤ 4096) (k : Nat) (hk : 4200 ≤ k) : billetref01_Reader_Num.f k r b = some (qN r b) := by
  cases b with
  | true => rw [RNum_bad]; rfl
  | false => rw [RNum_good r (by omega) k (by omega)]; rfl
def qT (r : ByteArray) (b : Bool) : ByteArray × ByteArray × Bool :=
  if (qN r b).2.2 = true then (⟨#[]⟩, (qN r b).2.1, true) else if (qN r b).1 < 0 then (⟨#[]⟩, (qN r b).2.1, true) else if (qN r b).1 > 12 then (⟨#[]⟩, (qN r b).2.1, true) else if (qN r b).1 > ((qN r b).2.1.size : Int) then (⟨#[]⟩, (qN r b).2.1, true)
  else ((qN r b).2.1.extract 0 (qN r b).1.toNat, (qN r b).2.1.extract (qN r b).1.toNat (qN r b).2.1.size, (qN r b).2.2)
theorem qT_le (r : ByteArray) (b : Bool) : (qT r b).2.1.size ≤ r.size := by
  have := qN_le r b
  unfold qT
  split
  · exact this
  · split
    · exact this
    · split
      · exact this
      · split
        · exact this
        · simp only [ByteArray.size_extract]; omega
theorem RT (r : ByteArray) (b : Bool) (hr : r.size ≤ 4096) (k : Nat) (hk : 4200 ≤ k) : billetref01_Reader_Text.f k r b 12 = some (qT r b) := by
  unfold billetref01_Reader_Text.f
  rw [RN r b hr k hk, Option.bind_some]
  unfold qT
  by_cases h1 : (qN r b).2.2 = true
  · rw [if_pos h1, if_pos h1]
  · rw [if_neg h1, if_neg h1]
    by_cases h2 : (qN r b).1 < 0
    · rw [if_pos h2, if_pos h2]
    · rw [if_neg h2, if_neg h2]
      by_cases h3 : (qN r b).1 > 12
      · rw [if_pos h3, if_pos h3]
      · rw [if_neg h3, if_neg h3]
        by_cases h4 : (qN r b).1 > ((qN r b).2.1.size : Int)
        · rw [if_pos h4, if_pos h4]
        · rw [if_neg h4, if_neg h4, if_pos (by omega), if_pos (by omega)]
def qB (r : ByteArray) (b : Bool) : S42 × ByteArray × Bool :=
  (⟨(qT r b).1, (qT (qT r b).2.1 (qT r b).2.2).1, (qN (qT (qT r b).2.1 (qT r b).2.2).2.1 (qT (qT r b).2.1 (qT r b).2.2).2.2).1⟩, (qN (qT (qT r b).2.1 (qT r b).2.2).2.1 (qT (qT r b).2.1 (qT r b).2.2).2.2).2)
def qBs (n : Int) : Nat → Nat → List S42 → ByteArray → Bool → List S42
  | 0, _, acc, _, _ => acc
  | d + 1, i, acc, r, b => if (i : Int) < n then qBs n d (i + 1) (acc ++ [(qB r b).1]) (qB r b).2.1 (qB r b).2.2 else acc
/-- what the document's Get gives for a message taken up -/
def verdict (s : ByteArray) (a0 a1 a2 a3 a4 a5 : Int) (l : List S42) : Ans := if rightS a0 a1 a2 a3 a4 a5 l = true ∧ s = fr (payload a0 a1 a2 a3 a4 a5 l) then (a0, a1, a2, a3, a4, a5, l, 0) else (0, 0, 0, 0, 0, 0, [], 160)
theorem j1_no (s : ByteArray) (n i a0 a1 a2 a3 a4 a5 : Int) (r : ByteArray) (b : Bool) (acc : List S42) (k : Nat) (hk : 2 * acc.length + 5400 ≤ k) : billetref16_Get.j1 (k + 1) s n i false r b a0 a1 a2 a3 a4 a5 acc = some (verdict s a0 a1 a2 a3 a4 a5 acc) := by
  rw [billetref16_Get.j1, if_neg (by decide), rput a0 a1 a2 a3 a4 a5 acc k hk]
  unfold msg_Put.f verdict
  cases hR : rightS a0 a1 a2 a3 a4 a5 acc with
  | false => simp
  | true =>
    rw [if_pos rfl, Option.bind_some, if_pos rfl]
    by_cases he : s = fr (payload a0 a1 a2 a3 a4 a5 acc)
    · rw [if_pos (by rw [he]), if_pos ⟨rfl, he⟩]
    · rw [if_neg (fun h => he ((toList_iff _ _).1 h).symm), if_neg (fun h => he h.2)]
theorem rget_l0 (s : ByteArray) (n a0 a1 a2 a3 a4 a5 : Int) : ∀ d i (acc : List S42) (r : ByteArray) (b : Bool) k, i + d = 64 → acc.length = i → r.size ≤ 4096 → 2 * d + 6000 ≤ k → billetref16_Get.l0 k s n (i : Int) r b a0 a1 a2 a3 a4 a5 acc = some (verdict s a0 a1 a2 a3 a4 a5 (qBs n d i acc r b))
  | 0, i, acc, r, b, k, h1, h2, h3, h4 => by
    obtain ⟨k, rfl⟩ : ∃ m, k = m + 2 := ⟨k - 2, by omega⟩
    rw [billetref16_Get.l0]
    have e : decide ((i : Int) < 64) = false := by simp; omega
    rw [e, j1_no s n i a0 a1 a2 a3 a4 a5 r b acc k (by omega)]
    split <;> rfl
  | d + 1, i, acc, r, b, k, h1, h2, h3, h4 => by
    obtain ⟨k, rfl⟩ : ∃ m, k = m + 2 := ⟨k - 2, by omega⟩
    rw [billetref16_Get.l0, qBs]
    by_cases hi : (i : Int) < n
    · have e : decide ((i : Int) < 64) = true := by simp; omega
      have l1 := qT_le r b
      have l2 := qT_le (qT r b).2.1 (qT r b).2.2
      have l3 := qN_le (qT (qT r b).2.1 (qT r b).2.2).2.1 (qT (qT r b).2.1 (qT r b).2.2).2.2
      rw [if_pos hi, if_pos hi, e, billetref16_Get.j1, if_pos rfl, RT r b h3 k (by omega), Option.bind_some, RT _ _ (by omega) k (by omega), Option.bind_some, RN _ _ (by omega) k (by omega), Option.bind_some, if_pos (by omega), wr64 i (by omega)]
      exact rget_l0 s n a0 a1 a2 a3 a4 a5 d (i + 1) _ _ _ k (by omega) (by simp; omega) (by show (qN _ _).2.1.size ≤ 4096; omega) (by omega)
    · rw [if_neg hi, if_neg hi, j1_no s n i a0 a1 a2 a3 a4 a5 r b acc k (by omega)]
/-! ### what is laid is taken up by the document's reader -/
theorem qN_at (x : Int) (q r : ByteArray) (h0 : -9223372036854775808 ≤ x) (h1 : x ≤ 9223372036854775807) (hr : r = num x ++ q) : qN r false = (x, q, false) := by
  have e : r = (⟨#[]⟩ : ByteArray) ++ num x ++ q := by rw [hr, empty_app]
  have hd := dec_at r ⟨#[]⟩ q x h0 h1 e
  rw [show (⟨#[]⟩ : ByteArray).size = 0 from rfl, List.drop_zero] at hd
  unfold qN
  rw [if_neg (by decide), hd]
  simp only [rout, unzig_zig]
  rw [hr, ext_right]
theorem qT_at (t q r : ByteArray) (ht : t.size ≤ 12) (hr : r = text t ++ q) : qT r false = (t, q, false) := by
  have e : r = num t.size ++ (t ++ q) := by rw [hr]; unfold text; rw [ByteArray.append_assoc]
  have hq := qN_at t.size (t ++ q) r (by omega) (by omega) e
  have hz : (t ++ q).size = t.size + q.size := ByteArray.size_append
  unfold qT
  rw [hq]
  dsimp only
  rw [if_neg (by decide), if_neg (by omega), if_neg (by omega), if_neg (by omega), Int.toNat_natCast, ext_left, ext_right]
theorem qB_at (x : S42) (q r : ByteArray) (hx : okB x = true) (hr : r = bindB x ++ q) : qB r false = (x, q, false) := by
  obtain ⟨z0, z1, z2, z3⟩ := ok_sizes hx
  have e1 : r = text x.f0 ++ (text x.f1 ++ (num x.f2 ++ q)) := by rw [hr]; unfold bindB; simp only [ByteArray.append_assoc]
  have t1 := qT_at x.f0 _ r z0 e1
  have t2 := qT_at x.f1 (num x.f2 ++ q) (text x.f1 ++ (num x.f2 ++ q)) z1 rfl
  have t3 := qN_at x.f2 q (num x.f2 ++ q) (by omega) (by omega) rfl
  unfold qB
  rw [t1]
  dsimp only
  rw [t2]
  dsimp only
  rw [t3]
theorem qBs_at (l : List S42) (hok : ∀ x ∈ l, okB x = true) : ∀ d i, i ≤ l.length → l.length ≤ i + d → qBs (l.length : Int) d i (l.take i) (bindsB (l.drop i)) false = l
  | 0, i, h1, h2 => by rw [qBs, List.take_of_length_le (by omega)]
  | d + 1, i, h1, h2 => by
    rw [qBs]
    by_cases hi : i < l.length
    · have hd : bindsB (l.drop i) = bindB l[i] ++ bindsB (l.drop (i + 1)) := by rw [List.drop_eq_getElem_cons hi, bindsB]
      have hb := qB_at l[i] _ _ (hok _ (List.getElem_mem hi)) hd
      rw [if_pos (by omega), hb]
      dsimp only
      rw [← List.take_succ_eq_append_getElem hi]
      exact qBs_at l hok d (i + 1) hi (by omega)
    · rw [if_neg (by omega), List.take_of_length_le (by omega)]
/-- the document's Get -/
theorem rget (s : ByteArray) (hs : s.size ≤ 4611686018427387904) (k : Nat) (hk : s.size + 7000 ≤ k) : billetref16_Get.f k s = some (getS s) := by
  unfold billetref16_Get.f
  rw [rTake_eq k s hs (by omega), Option.bind_some]
  have hps := take_small s hs
  by_cases h0 : (take s).2.2 = 0
  · rw [if_pos h0]
    rw [show billetref01_New.f (take s).1 = some ((take s).1, false) from rfl, Option.bind_some]
    dsimp only
    generalize hp : (take s).1 = p at *
    have n1 := qN_le p false
    generalize hq1 : qN p false = q1 at *
    have n2 := qN_le q1.2.1 q1.2.2
    generalize hq2 : qN q1.2.1 q1.2.2 = q2 at *
    have n3 := qN_le q2.2.1 q2.2.2
    generalize hq3 : qN q2.2.1 q2.2.2 = q3 at *
    have n4 := qN_le q3.2.1 q3.2.2
    generalize hq4 : qN q3.2.1 q3.2.2 = q4 at *
    have n5 := qN_le q4.2.1 q4.2.2
    generalize hq5 : qN q4.2.1 q4.2.2 = q5 at *
    have n6 := qN_le q5.2.1 q5.2.2
    generalize hq6 : qN q5.2.1 q5.2.2 = q6 at *
    have n7 := qN_le q6.2.1 q6.2.2
    generalize hq7 : qN q6.2.1 q6.2.2 = q7 at *
    rw [RN p false hps k (by omega), Option.bind_some, hq1, RN _ _ (by omega) k (by omega), Option.bind_some, hq2, RN _ _ (by omega) k (by omega), Option.bind_some, hq3, RN _ _ (by omega) k (by omega), Option.bind_some, hq4, RN _ _ (by omega) k (by omega), Option.bind_some, hq5, RN _ _ (by omega) k (by omega), Option.bind_some, hq6, RN _ _ (by omega) k (by omega), Option.bind_some, hq7]
    have hl := rget_l0 s q7.1 q1.1 q2.1 q3.1 q4.1 q5.1 q6.1 64 0 [] q7.2.1 q7.2.2 k rfl rfl (by omega) (by omega)
    refine hl.trans ?_
    congr 1
    rcases get_err s with ⟨a0, a1, a2, a3, a4, a5, l, hr, he, hg⟩ | ⟨hg, hno⟩
    · rw [hg]
      have hsz := payload_size hr
      have hpe : p = payload a0 a1 a2 a3 a4 a5 l := by
        have := take_fr (payload a0 a1 a2 a3 a4 a5 l) ⟨#[]⟩ (by omega)
        rw [app_empty, ← he] at this
        rw [← hp, this]
      obtain ⟨hrg, hl64, hok⟩ := right_in hr
      have e : p = num a0 ++ (num a1 ++ (num a2 ++ (num a3 ++ (num a4 ++ (num a5 ++ (num (l.length : Int) ++ bindsB l)))))) := by
        rw [hpe]; unfold payload; simp [Pt.nums, ByteArray.append_assoc]
      have f1 := qN_at a0 _ p (by omega) (by omega) e
      rw [hq1] at f1; subst f1
      dsimp only at hq2
      have f2 := hq2.symm.trans (qN_at a1 _ _ (by omega) (by omega) rfl); subst f2
      dsimp only at hq3
      have f3 := hq3.symm.trans (qN_at a2 _ _ (by omega) (by omega) rfl); subst f3
      dsimp only at hq4
      have f4 := hq4.symm.trans (qN_at a3 _ _ (by omega) (by omega) rfl); subst f4
      dsimp only at hq5
      have f5 := hq5.symm.trans (qN_at a4 _ _ (by omega) (by omega) rfl); subst f5
      dsimp only at hq6
      have f6 := hq6.symm.trans (qN_at a5 _ _ (by omega) (by omega) rfl); subst f6
      dsimp only at hq7
      have f7 := hq7.symm.trans (qN_at (l.length : Int) _ _ (by omega) (by omega) rfl); subst f7
      dsimp only
      have hb := qBs_at l hok 64 0 (Nat.zero_le _) (by omega)
      rw [List.take_zero, List.drop_zero] at hb
      rw [hb]
      unfold verdict
      rw [if_pos ⟨hr, he⟩]
    · rw [hg]
      unfold verdict
      rw [if_neg (fun h => hno _ _ _ _ _ _ _ h.1 h.2)]
  · rw [if_neg h0, get_not (Or.inl h0)]
end Go.Proofs.YtdgaancbeakfdaaDoor.Tp
