/- Labels of raw numbers are right: the texts. -/
/- thin -/
import Derived.Test.YtldlkbjbfgieeaaGreatDoorFt
import Derived.Test.YtldlkbjbfgieeaaGreatDoorRi
import Derived.IntWalk
namespace Go.Proofs.YtldlkbjbfgieeaaGreatDoor.La
set_option linter.unusedVariables false
set_option linter.unusedSimpArgs false
open Go.RowKit Go.Proofs.YtldlkbjbfgieeaaGreatDoorW.PrintWords Go.Proofs.YtldlkbjbfgieeaaGreatDoorW.PrintLast Mo Q Rw Cb
open Go.Proofs.YtldlkbjbfgieeaaGreatDoor.Lb (selS noTerm partsS cutS comma)
open Go.Proofs.YtldlkbjbfgieeaaGreatDoor.Nm
open Go.Proofs.YtldlkbjbfgieeaaGreatDoor.Ri (labS labsGo)
set_option maxRecDepth 1000000
theorem ib_app (c : UInt8) (b : List UInt8) : ∀ a : List UInt8, c ∉ a → Lib.indexByte (a ++ c :: b) c = a.length
 | [], _ => by simp [Lib.indexByte]
 | x :: a, h => by
   have h1 : (x == c) = false := beq_eq_false_iff_ne.mpr (fun e => h (by rw [e]; exact List.mem_cons_self))
   have ih := ib_app c b a (fun hm => h (List.mem_cons_of_mem _ hm))
   rw [List.cons_append]
   unfold Lib.indexByte
   rw [h1, ih]
   have h2 : ((a.length : Int) == -1) = false := beq_eq_false_iff_ne.mpr (by omega)
   rw [h2]
   simp
theorem ib_none (c : UInt8) : ∀ a : List UInt8, c ∉ a → Lib.indexByte a c = -1
 | [], _ => rfl
 | x :: a, h => by
   have h1 : (x == c) = false := beq_eq_false_iff_ne.mpr (fun e => h (by rw [e]; exact List.mem_cons_self))
   unfold Lib.indexByte
   rw [h1, ib_none c a (fun hm => h (List.mem_cons_of_mem _ hm))]
   simp
theorem tl_app (a b : ByteArray) : (a ++ comma ++ b).data.toList = a.data.toList ++ 44 :: b.data.toList := by
 rw [ByteArray.data_append, ByteArray.data_append, Array.toList_append, Array.toList_append, List.append_assoc]
 rfl
theorem idx_app (a b : ByteArray) (h : 44 ∉ a.data.toList) : Lib.indexB (a ++ comma ++ b) comma = (a.size : Int) := by
 show Lib.index (a ++ comma ++ b).data.toList [44] = _
 rw [Lib.index_one, tl_app, ib_app _ _ _ h, Array.length_toList]
 rfl
theorem idx_none (a : ByteArray) (h : 44 ∉ a.data.toList) : Lib.indexB a comma = -1 := by
 show Lib.index a.data.toList [44] = _
 rw [Lib.index_one, ib_none _ _ h]
theorem ext_tl (s : ByteArray) (i j : Nat) : (s.extract i j).data.toList = (s.data.toList.drop i).take (j - i) := by
 rw [ByteArray.data_extract, Array.toList_extract, List.extract_eq_take_drop]
theorem len_size (a : ByteArray) : a.data.toList.length = a.size := by rw [Array.length_toList]; rfl
theorem ext_l (a b : ByteArray) : (a ++ comma ++ b).extract 0 (a.size + 0) = a := by
 apply ByteArray.ext
 apply Array.toList_inj.1
 rw [ext_tl, tl_app, List.drop_zero, ← len_size, Nat.add_zero, Nat.sub_zero, List.take_left]
theorem ext_r (a b : ByteArray) : (a ++ comma ++ b).extract (a.size + comma.size) (a ++ comma ++ b).size = b := by
 apply ByteArray.ext
 apply Array.toList_inj.1
 rw [ext_tl, tl_app, show a.size + comma.size = (a.data.toList ++ [44]).length by rw [List.length_append, len_size]; rfl, show a.data.toList ++ 44 :: b.data.toList = (a.data.toList ++ [44]) ++ b.data.toList by rw [List.append_assoc]; rfl, List.drop_left]
 refine List.take_of_length_le ?_
 rw [← len_size (a ++ comma ++ b), tl_app, List.length_append, List.length_append, List.length_cons, List.length_cons, List.length_nil]
 omega
/-- texts between commas -/
def jf : List ByteArray → ByteArray
 | [] => ⟨#[]⟩
 | [p] => p
 | p :: q :: l => p ++ comma ++ jf (q :: l)
theorem split_jf : ∀ (l : List ByteArray), l ≠ [] → (∀ p ∈ l, 44 ∉ p.data.toList) → Lib.splitB comma 0 (Lib.countB (jf l) comma) (jf l) = l
 | [], h, _ => absurd rfl h
 | [p], _, h => by
   have h1 := idx_none p (h p List.mem_cons_self)
   show Lib.splitB comma 0 (Lib.countB p comma) p = [p]
   rw [Lib.splitB_miss _ _ _ _ h1]
 | p :: q :: l, _, h => by
   have h1 := idx_app p (jf (q :: l)) (h p List.mem_cons_self)
   have ih := split_jf (q :: l) (by simp) (fun x hx => h x (List.mem_cons_of_mem _ hx))
   show Lib.splitB comma 0 (Lib.countB (p ++ comma ++ jf (q :: l)) comma) (p ++ comma ++ jf (q :: l)) = _
   rw [Lib.countB_hit _ _ _ (by decide) h1, ext_r, Nat.add_comm, Lib.splitB_hit _ _ _ _ _ h1, ext_l, ext_r, ih]
theorem jf_end : ∀ (l : List ByteArray) (t : ByteArray), jf (l ++ [t]) = if l = [] then t else jf l ++ comma ++ t
 | [], t => rfl
 | [p], t => by simp [jf]
 | p :: q :: l, t => by
   have ih := jf_end (q :: l) t
   rw [if_neg (by simp)] at ih ⊢
   show p ++ comma ++ jf (q :: l ++ [t]) = p ++ comma ++ jf (q :: l) ++ comma ++ t
   rw [ih]
   simp only [ByteArray.append_assoc]
abbrev keyL : List ByteArray := [⟨#[97]⟩, ⟨#[97, 98]⟩, ⟨#[97, 98, 99, 100, 101, 102, 103, 104, 105, 106, 107, 108]⟩, ⟨#[98]⟩, ⟨#[100, 105, 115, 107]⟩, ⟨#[103, 112, 117]⟩, ⟨#[120, 57]⟩, ⟨#[122, 111, 110, 101]⟩]
abbrev valL : List ByteArray := [⟨#[97]⟩, ⟨#[98]⟩, ⟨#[122, 111, 110, 101]⟩, ⟨#[100, 105, 115, 107]⟩, ⟨#[103, 112, 117]⟩, ⟨#[120, 57]⟩, ⟨#[97, 98]⟩, ⟨#[97, 98, 99, 100, 101, 102, 103, 104, 105, 106, 107, 108]⟩]
def ky (i : Nat) : ByteArray := keyL.getD i ByteArray.empty
def vl (i : Nat) : ByteArray := valL.getD i ByteArray.empty
/-- a label -/
def T (p : Nat × Nat) : ByteArray := ky p.1 ++ ⟨#[61]⟩ ++ vl p.2
def okP (k v : Nat) : Bool := decide ((cutS (T (k, v))).1 = ky k) && decide ((cutS (T (k, v))).2.1 = vl v) && (cutS (T (k, v))).2.2 && nm (ky k) && nm (vl v) && !(T (k, v)).data.toList.contains 44 && decide ((T (k, v)).size ≤ 30) && lt ByteArray.empty (ky k)
theorem okP_all : ((List.range 8).all fun k => (List.range 8).all fun v => okP k v) = true := by decide +kernel
theorem lt_all : ((List.range 8).all fun i => (List.range 8).all fun j => !decide (i < j) || lt (ky i) (ky j)) = true := by decide +kernel
theorem okP_of {k v : Nat} (hk : k < 8) (hv : v < 8) : okP k v = true := List.all_eq_true.1 (List.all_eq_true.1 okP_all k (List.mem_range.2 hk)) v (List.mem_range.2 hv)
theorem lt_of {i j : Nat} (hj : j < 8) (h : i < j) : lt (ky i) (ky j) = true := by
 have := List.all_eq_true.1 (List.all_eq_true.1 lt_all i (List.mem_range.2 (by omega))) j (List.mem_range.2 hj)
 rw [decide_eq_true h] at this
 simpa using this
theorem go_ok : ∀ (ps : List (Nat × Nat)) (last : ByteArray), ps.Pairwise (fun a b => a.1 < b.1) → (∀ p ∈ ps, p.1 < 8 ∧ p.2 < 8) → (∀ p ∈ ps, lt last (ky p.1) = true) → labsGo (ps.map T) last = true
 | [], _, _, _, _ => rfl
 | p :: ps, last, h1, h2, h3 => by
   have hp := h2 p List.mem_cons_self
   have ho := okP_of hp.1 hp.2
   unfold okP at ho
   simp only [Bool.and_eq_true, decide_eq_true_eq] at ho
   obtain ⟨⟨⟨⟨⟨⟨⟨o1, o2⟩, o3⟩, o4⟩, o5⟩, _⟩, _⟩, _⟩ := ho
   have ih := go_ok ps (ky p.1) (List.Pairwise.of_cons h1) (fun q hq => h2 q (List.mem_cons_of_mem _ hq)) (fun q hq => lt_of (h2 q (List.mem_cons_of_mem _ hq)).1 (List.rel_of_pairwise_cons h1 hq))
   rw [List.map_cons]
   unfold labsGo
   rw [show T p = T (p.1, p.2) from rfl, o1, o2, o3, o4, o5, h3 p List.mem_cons_self, ih]
   rfl
theorem no44 {p : Nat × Nat} (h : p.1 < 8 ∧ p.2 < 8) : 44 ∉ (T p).data.toList := by
 have ho := okP_of h.1 h.2
 unfold okP at ho
 simp only [Bool.and_eq_true, decide_eq_true_eq] at ho
 have := ho.1.1.2
 simpa using this
theorem lab_ok (ps : List (Nat × Nat)) (h1 : ps.Pairwise (fun a b => a.1 < b.1)) (h2 : ∀ p ∈ ps, p.1 < 8 ∧ p.2 < 8) (h3 : ps.length ≤ 4) : labS (jf (ps.map T)) = true := by
 unfold labS partsS
 by_cases h0 : (jf (ps.map T)).size = 0
 ·rw [if_pos h0]; rfl
 ·rw [if_neg h0]
  have hne : ps.map T ≠ [] := by
   intro e; rw [e] at h0; exact h0 rfl
  rw [split_jf _ hne (fun x hx => by obtain ⟨p, hp, rfl⟩ := List.mem_map.1 hx; exact no44 (h2 p hp))]
  rw [go_ok ps _ h1 h2 (fun p hp => by
   have ho := okP_of (h2 p hp).1 (h2 p hp).2
   unfold okP at ho
   simp only [Bool.and_eq_true] at ho
   exact ho.2), List.length_map, decide_eq_true h3]
  rfl
end Go.Proofs.YtldlkbjbfgieeaaGreatDoor.La
namespace Go.Proofs.YtldlkbjbfgieeaaGreatDoor.La
set_option linter.unusedVariables false
set_option linter.unusedSimpArgs false
open Go.RowKit Go.Proofs.YtldlkbjbfgieeaaGreatDoorW.PrintWords Go.Proofs.YtldlkbjbfgieeaaGreatDoorW.PrintLast Mo Q Rw Cb Ft
open Go.Proofs.YtldlkbjbfgieeaaGreatDoor.Lb (selS noTerm partsS cutS comma)
open Go.Proofs.YtldlkbjbfgieeaaGreatDoor.Nm
open Go.Proofs.YtldlkbjbfgieeaaGreatDoor.Ri (labS labsGo)
open Go.IntWalk (wrap64_in)
set_option maxRecDepth 1000000
/-- a whole number of 64 bits -/
def In64 (c : Int) : Prop := -9223372036854775808 ≤ c ∧ c ≤ 9223372036854775807
/-- what a raw number speaks of -/
def raw (c : Int) : Nat := if c < 0 then (-(c + 1)).toNat else c.toNat
theorem pk_raw {c : Int} (h : In64 c) (n : Nat) : pk c (n : Int) = ((raw c % n : Nat) : Int) := by
 obtain ⟨h1, h2⟩ := h
 unfold pk raw
 by_cases hc : c < 0
 ·rw [if_pos hc, if_pos hc, show wrap64 (c + 1) = c + 1 from wrap64_in _ (by omega), show wrap64 (-(c + 1)) = -(c + 1) from wrap64_in _ (by omega)]
  obtain ⟨m, hm⟩ : ∃ m : Nat, -(c + 1) = (m : Int) := ⟨(-(c + 1)).toNat, by omega⟩
  rw [hm, Int.toNat_natCast]
  rfl
 ·rw [if_neg hc, if_neg hc]
  obtain ⟨m, rfl⟩ : ∃ m : Nat, c = (m : Int) := ⟨c.toNat, by omega⟩
  rw [Int.toNat_natCast]
  rfl
theorem pick04 {c : Int} (h : In64 c) (n : Nat) (hn : 0 < n) : billetlaw04_pick.f c (n : Int) = some ((raw c % n : Nat) : Int) := by
 rw [← pk_raw h n]
 unfold billetlaw04_pick.f pk
 by_cases hc : c < 0
 ·rw [if_pos hc, if_neg (by omega), if_pos hc]
 ·rw [if_neg hc, if_neg (by omega), if_neg hc, Int.tmod_eq_emod_of_nonneg (by omega)]
theorem name04_all : ((List.range 8).all fun v => decide (billetlaw04_Name.f (v : Int) = some (vl v))) = true := by decide +kernel
theorem name04 {v : Nat} (h : v < 8) : billetlaw04_Name.f (v : Int) = some (vl v) := of_decide_eq_true (List.all_eq_true.1 name04_all v (List.mem_range.2 h))
theorem jf_size : ∀ (ps : List (Nat × Nat)), (∀ p ∈ ps, p.1 < 8 ∧ p.2 < 8) → (jf (ps.map T)).size ≤ 31 * ps.length
 | [], _ => by decide
 | [p], h => by
   have ho := okP_of (h p List.mem_cons_self).1 (h p List.mem_cons_self).2
   unfold okP at ho
   simp only [Bool.and_eq_true, decide_eq_true_eq] at ho
   have := ho.1.2
   show (T p).size ≤ 31 * 1
   exact Nat.le_trans this (by decide)
 | p :: q :: l, h => by
   have ih := jf_size (q :: l) (fun x hx => h x (List.mem_cons_of_mem _ hx))
   have ho := okP_of (h p List.mem_cons_self).1 (h p List.mem_cons_self).2
   unfold okP at ho
   simp only [Bool.and_eq_true, decide_eq_true_eq] at ho
   have h1 : (T p).size ≤ 30 := ho.1.2
   show (T p ++ comma ++ jf ((q :: l).map T)).size ≤ 31 * (p :: q :: l).length
   rw [ByteArray.size_append, ByteArray.size_append, show comma.size = 1 from rfl]
   simp only [List.length_cons] at ih ⊢
   omega
theorem e61 : (⟨#[61]⟩ : ByteArray).size = 1 := rfl
theorem e44 : (⟨#[44]⟩ : ByteArray).size = 1 := rfl
/-- labels between the loops' rounds -/
def Good (ps : List (Nat × Nat)) (i : Nat) : Prop := ps.Pairwise (fun a b => a.1 < b.1) ∧ (∀ p ∈ ps, p.1 < 8 ∧ p.2 < 8) ∧ (∀ p ∈ ps, p.1 < i) ∧ ps.length ≤ 4
theorem Good.step {ps : List (Nat × Nat)} {i : Nat} (h : Good ps i) : Good ps (i + 1) := ⟨h.1, h.2.1, fun p hp => by have := h.2.2.1 p hp; omega, h.2.2.2⟩
theorem Good.add {ps : List (Nat × Nat)} {i v : Nat} (h : Good ps i) (hi : i < 8) (hv : v < 8) (hm : ps.length < 4) : Good (ps ++ [(i, v)]) (i + 1) := by
 refine ⟨List.pairwise_append.2 ⟨h.1, List.pairwise_singleton _ _, fun a ha b hb => ?_⟩, fun p hp => ?_, fun p hp => ?_, by rw [List.length_append]; simp; omega⟩
 ·rw [List.mem_singleton.1 hb]; exact h.2.2.1 a ha
 ·rcases List.mem_append.1 hp with hp | hp
  ·exact h.2.1 p hp
  ·rw [List.mem_singleton.1 hp]; exact ⟨hi, hv⟩
 ·rcases List.mem_append.1 hp with hp | hp
  ·have := h.2.2.1 p hp; omega
  ·rw [List.mem_singleton.1 hp]; exact Nat.lt_succ_self _
/-- the outer loop ends well from i on -/
def End0 (l : List Int) (i : Nat) : Prop := ∀ ps, Good ps i → ∃ K ps', Good ps' 8 ∧ ∀ k, K ≤ k → billetlaw04_Labels.l0 k l keyL (jf (ps.map T)) (ps.length : Int) (i : Int) = some (jf (ps'.map T))
def End1 (l : List Int) (i j : Nat) : Prop := ∀ ps, Good ps i → ∃ K ps', Good ps' 8 ∧ ∀ k, K ≤ k → billetlaw04_Labels.l1 k l keyL (jf (ps.map T)) (ps.length : Int) (i : Int) (j : Int) = some (jf (ps'.map T))
theorem pred {K k : Nat} (h : K + 1 ≤ k) : ∃ m, k = m + 1 ∧ K ≤ m := ⟨k - 1, by omega, by omega⟩
theorem out_j2 {l : List Int} {i j : Nat} (hi : i < 8) (h : End0 l (i + 1)) (ps : List (Nat × Nat)) (hg : Good ps i) : ∃ K ps', Good ps' 8 ∧ ∀ k, K ≤ k → billetlaw04_Labels.j2 k l keyL (jf (ps.map T)) (ps.length : Int) (i : Int) (j : Int) false = some (jf (ps'.map T)) := by
 obtain ⟨K, ps', g, hk⟩ := h ps hg.step
 refine ⟨K + 1, ps', g, fun k hle => ?_⟩
 obtain ⟨m, rfl, hm⟩ := pred hle
 unfold billetlaw04_Labels.j2
 rw [if_neg (by decide), wrap64_in _ (by omega)]
 exact hk m hm
theorem loop1 {l : List Int} (hl : ∀ x ∈ l, In64 x) (hlen : l.length < 1000) {i : Nat} (hi : i < 8) (h : End0 l (i + 1)) : ∀ d j, j + d = l.length → End1 l i j
 | 0, j, hj => fun ps hg => by
   obtain ⟨K, ps', g, hk⟩ := out_j2 (j := j) hi h ps hg
   refine ⟨K + 1, ps', g, fun k hle => ?_⟩
   obtain ⟨m, rfl, hm⟩ := pred hle
   unfold billetlaw04_Labels.l1
   rw [if_neg (by omega)]
   exact hk m hm
 | d + 1, j, hj => fun ps hg => by
   by_cases h40 : j < 40
   ·have hx : In64 (rd l (j : Int)) := by
     unfold rd
     rw [Int.toNat_natCast, List.getD_eq_getElem?_getD, List.getElem?_eq_getElem (by omega)]
     exact hl _ (List.getElem_mem _)
    have hno : ∃ K ps', Good ps' 8 ∧ ∀ k, K ≤ k → billetlaw04_Labels.j3 k l keyL (jf (ps.map T)) (ps.length : Int) (i : Int) (j : Int) false = some (jf (ps'.map T)) := by
     obtain ⟨K, ps', g, hk⟩ := loop1 hl hlen hi h d (j + 1) (by omega) ps hg
     refine ⟨K + 1, ps', g, fun k hle => ?_⟩
     obtain ⟨m, rfl, hm⟩ := pred hle
     unfold billetlaw04_Labels.j3
     rw [if_neg (by decide), wrap64_in _ (by omega)]
     exact hk m hm
    have hyes : ps.length < 4 → ∃ K ps', Good ps' 8 ∧ ∀ k, K ≤ k → billetlaw04_Labels.j3 k l keyL (jf (ps.map T)) (ps.length : Int) (i : Int) (j : Int) true = some (jf (ps'.map T)) := by
     intro h4
     have hv : raw (rd l (j : Int)) % 64 / 8 < 8 := by omega
     obtain ⟨K, ps', g, hk⟩ := h _ (hg.add hi hv h4)
     have hsz := jf_size ps hg.2.1
     have hok := okP_of hi hv
     unfold okP at hok
     simp only [Bool.and_eq_true, decide_eq_true_eq] at hok
     have hT : (T (i, raw (rd l (j : Int)) % 64 / 8)).size ≤ 30 := hok.1.2
     unfold T at hT
     rw [ByteArray.size_append, ByteArray.size_append] at hT
     have hky : rdOf ByteArray.empty keyL (i : Int) = ky i := by unfold rdOf ky; rw [Int.toNat_natCast]
     have hT' : (ky i).size + 1 + (vl (raw (rd l (j : Int)) % 64 / 8)).size ≤ 30 := hT
     refine ⟨K + 1, ps', g, fun k hle => ?_⟩
     obtain ⟨m, rfl, hm⟩ := pred hle
     have hr := hk m hm
     rw [List.map_append, List.map_singleton, jf_end, List.length_append, List.length_singleton] at hr
     unfold billetlaw04_Labels.j3
     rw [if_pos rfl]
     have hp : billetlaw04_pick.f (rd l (j : Int)) 64 = some ((raw (rd l (j : Int)) % 64 : Nat) : Int) := pick04 hx 64 (by decide)
     have hn : billetlaw04_Name.f (wrap64 (Int.tdiv ((raw (rd l (j : Int)) % 64 : Nat) : Int) 8)) = some (vl (raw (rd l (j : Int)) % 64 / 8)) := by
      rw [show Int.tdiv ((raw (rd l (j : Int)) % 64 : Nat) : Int) 8 = ((raw (rd l (j : Int)) % 64 / 8 : Nat) : Int) from rfl, wrap64_in _ (by omega)]
      exact name04 hv
     have hkl : (keyL.length : Int) = 8 := rfl
     by_cases h0 : ps.length = 0
     ·obtain rfl := List.length_eq_zero_iff.1 h0
      have e0 : jf (([] : List (Nat × Nat)).map T) = ByteArray.empty := rfl
      have e1 : ByteArray.empty.size = 0 := rfl
      rw [e0] at hr ⊢
      rw [if_neg (by decide), if_pos (by omega), if_pos (by rw [hkl]; omega), hky, if_pos (by rw [e1]; omega), if_pos (by rw [ByteArray.size_append, e1]; omega), if_pos (by omega), if_pos (by omega), hp, Option.bind_some, hn, Option.bind_some, if_pos (by rw [ByteArray.size_append, ByteArray.size_append, e1, e61]; omega), wrap64_in _ (by simp), wrap64_in _ (by omega), ByteArray.empty_append]
      exact hr
     ·have hne : ps.map T ≠ [] := by
       intro e
       have := congrArg List.length e
       rw [List.length_map] at this
       exact h0 this
      rw [if_neg hne] at hr
      rw [if_pos (by omega), if_pos (by omega), if_pos (by omega), if_pos (by rw [hkl]; omega), hky, if_pos (by rw [ByteArray.size_append, e44]; omega), if_pos (by rw [ByteArray.size_append, ByteArray.size_append, e44]; omega), if_pos (by omega), if_pos (by omega), hp, Option.bind_some, hn, Option.bind_some, if_pos (by rw [ByteArray.size_append, ByteArray.size_append, ByteArray.size_append, e61, e44]; omega), wrap64_in _ (by omega), wrap64_in _ (by omega)]
      refine Eq.trans (congrArg (fun z => billetlaw04_Labels.l0 m l keyL z _ _) ?_) hr
      unfold T
      simp only [ByteArray.append_assoc]
    have hb : ∃ K ps', Good ps' 8 ∧ ∀ k, K ≤ k → billetlaw04_Labels.j2 k l keyL (jf (ps.map T)) (ps.length : Int) (i : Int) (j : Int) true = some (jf (ps'.map T)) := by
     have hp : billetlaw04_pick.f (rd l (j : Int)) 8 = some ((raw (rd l (j : Int)) % 8 : Nat) : Int) := pick04 hx 8 (by decide)
     by_cases he : raw (rd l (j : Int)) % 8 = i ∧ ps.length < 4
     ·obtain ⟨K, ps', g, hk⟩ := hyes he.2
      refine ⟨K + 1, ps', g, fun k hle => ?_⟩
      obtain ⟨m, rfl, hm⟩ := pred hle
      unfold billetlaw04_Labels.j2
      rw [if_pos rfl, if_pos (by omega), if_pos (by omega), hp, Option.bind_some, if_pos (by rw [he.1]), decide_eq_true (by omega)]
      exact hk m hm
     ·obtain ⟨K, ps', g, hk⟩ := hno
      refine ⟨K + 1, ps', g, fun k hle => ?_⟩
      obtain ⟨m, rfl, hm⟩ := pred hle
      unfold billetlaw04_Labels.j2
      rw [if_pos rfl, if_pos (by omega), if_pos (by omega), hp, Option.bind_some]
      by_cases h1 : raw (rd l (j : Int)) % 8 = i
      ·rw [if_pos (by rw [h1]), decide_eq_false (by omega)]
       exact hk m hm
      ·rw [if_neg (by omega)]
       exact hk m hm
    obtain ⟨K, ps', g, hk⟩ := hb
    refine ⟨K + 1, ps', g, fun k hle => ?_⟩
    obtain ⟨m, rfl, hm⟩ := pred hle
    unfold billetlaw04_Labels.l1
    rw [if_pos (by omega), decide_eq_true (by omega)]
    exact hk m hm
   ·obtain ⟨K, ps', g, hk⟩ := out_j2 (j := j) hi h ps hg
    refine ⟨K + 1, ps', g, fun k hle => ?_⟩
    obtain ⟨m, rfl, hm⟩ := pred hle
    unfold billetlaw04_Labels.l1
    rw [if_pos (by omega), decide_eq_false (by omega)]
    exact hk m hm
theorem loop0 {l : List Int} (hl : ∀ x ∈ l, In64 x) (hlen : l.length < 1000) : ∀ d i, i + d = 8 → End0 l i
 | 0, i, hi => fun ps hg => by
   obtain rfl : i = 8 := by omega
   refine ⟨1, ps, hg, fun k hle => ?_⟩
   obtain ⟨m, rfl, hm⟩ := pred (K := 0) hle
   unfold billetlaw04_Labels.l0
   rw [if_neg (by decide)]
 | d + 1, i, hi => fun ps hg => by
   obtain ⟨K, ps', g, hk⟩ := loop1 hl hlen (by omega) (loop0 hl hlen d (i + 1) (by omega)) l.length 0 (by omega) ps hg
   refine ⟨K + 1, ps', g, fun k hle => ?_⟩
   obtain ⟨m, rfl, hm⟩ := pred hle
   unfold billetlaw04_Labels.l0
   rw [if_pos (by omega)]
   exact hk m hm
/-- what Labels gives is right -/
theorem labels_right {l : List Int} (hl : ∀ x ∈ l, In64 x) (hlen : l.length < 1000) : ∃ K t, billetlaw04_Labels.f K l = some t ∧ labS t = true ∧ t.size ≤ 124 := by
 obtain ⟨K, ps, g, hk⟩ := loop0 hl hlen 8 0 rfl [] ⟨List.Pairwise.nil, fun p hp => (by cases hp), fun p hp => (by cases hp), by decide⟩
 refine ⟨K, jf (ps.map T), hk K (Nat.le_refl _), lab_ok ps g.1 g.2.1 g.2.2.2, Nat.le_trans (jf_size ps g.2.1) ?_⟩
 have := g.2.2.2
 omega
end Go.Proofs.YtldlkbjbfgieeaaGreatDoor.La
