/- msg.Get takes up what msg.Put laid (plain law). -/
import Derived.Test.YtdgaancbeakfdaaDoorGp
import Derived.Test.YtdgaancbeakfdaaDoorFbk
namespace Go.Proofs.YtdgaancbeakfdaaDoor.Rd
open Go.RowKit Go.Proofs.YtdgaancbeakfdaaDoorW.PrintWords Go.Proofs.YtdgaancbeakfdaaDoor.Num Go.Proofs.YtdgaancbeakfdaaDoor.Vth Go.Proofs.YtdgaancbeakfdaaDoor.Vrd Go.Proofs.YtdgaancbeakfdaaDoor.Fth Go.Proofs.YtdgaancbeakfdaaDoor.Fbk Go.Proofs.YtdgaancbeakfdaaDoor.Giv Go.Proofs.YtdgaancbeakfdaaDoor.Q Go.Proofs.YtdgaancbeakfdaaDoor.Rt Go.Proofs.YtdgaancbeakfdaaDoor.Pt Go.Proofs.YtdgaancbeakfdaaDoor.Pp Go.Proofs.YtdgaancbeakfdaaDoor.Gp
set_option linter.unusedVariables false
set_option linter.unusedSimpArgs false
theorem rdN_at (p a q : ByteArray) (x : Int) (h0 : -9223372036854775808 ≤ x) (h1 : x ≤ 9223372036854775807) (h : p = a ++ num x ++ q) : rdN p (a.size, false) = (x, ((a ++ num x).size, false)) := by
  unfold rdN
  rw [if_neg (by simp)]
  dsimp only
  rw [dec_at p a q x h0 h1 h]
  dsimp only
  rw [unzig_zig, ByteArray.size_append]
theorem rdT_at (p a t q : ByteArray) (most : Int) (ht : t.size ≤ 4611686018427387904) (h : p = a ++ text t ++ q) (hm : (t.size : Int) ≤ most) : rdT p most (a.size, false) = (t, ((a ++ text t).size, false)) := by
  have h' : p = a ++ num t.size ++ (t ++ q) := by rw [h]; unfold text; simp only [ByteArray.append_assoc]
  have hs : p.size = a.size + (num t.size).size + t.size + q.size := by rw [h']; simp only [ByteArray.size_append]; omega
  unfold rdT
  rw [if_neg (by simp)]
  dsimp only
  rw [dec_at p a (t ++ q) t.size (by omega) (by omega) h']
  dsimp only
  rw [unzig_zig, if_neg (by omega)]
  have he : p.extract (a.size + (num t.size).size) (a.size + (num t.size).size + ((t.size : Nat) : Int).toNat) = t := by
    rw [h', Int.toNat_natCast, ← ByteArray.size_append, ← ByteArray.append_assoc]
    exact extract_mid _ _ _
  have hz : (a ++ text t).size = a.size + (num t.size).size + ((t.size : Nat) : Int).toNat := by
    rw [Int.toNat_natCast, ByteArray.size_append, text_size]; omega
  rw [he, hz]
theorem nums_at (xs : List Int) (p q : ByteArray) (h : p = Pt.nums xs ++ q) (hx : ∀ x ∈ xs, -9223372036854775808 ≤ x ∧ x ≤ 9223372036854775807) : ∀ i, i ≤ xs.length → rdSt p (0, false) i = ((Pt.nums (xs.take i)).size, false)
  | 0, _ => by simp [rdSt, Pt.nums]
  | i + 1, hi => by
    have ih := nums_at xs p q h hx i (by omega)
    have hs := nums_snoc xs i (by omega)
    have hp : p = Pt.nums (xs.take i) ++ num xs[i] ++ (Pt.nums (xs.drop (i + 1)) ++ q) := by
      rw [← hs, h, ← ByteArray.append_assoc, ← Pt.nums_append, List.take_append_drop]
    have hr := hx _ (List.getElem_mem (show i < xs.length by omega))
    unfold rdSt
    rw [ih, rdN_at p _ _ _ hr.1 hr.2 hp, ← hs]
theorem numV_at (xs : List Int) (p q : ByteArray) (h : p = Pt.nums xs ++ q) (hx : ∀ x ∈ xs, -9223372036854775808 ≤ x ∧ x ≤ 9223372036854775807) (i : Nat) (hi : i < xs.length) : rdV p (0, false) i = xs[i] := by
  have ih := nums_at xs p q h hx i (by omega)
  have hs := nums_snoc xs i (by omega)
  have hp : p = Pt.nums (xs.take i) ++ num xs[i] ++ (Pt.nums (xs.drop (i + 1)) ++ q) := by
    rw [← hs, h, ← ByteArray.append_assoc, ← Pt.nums_append, List.take_append_drop]
  have hr := hx _ (List.getElem_mem hi)
  unfold rdV
  rw [ih, rdN_at p _ _ _ hr.1 hr.2 hp]
theorem rdB_at (p a q : ByteArray) (x : S42) (hx : okB x = true) (h : p = a ++ bindB x ++ q) : rdB p (a.size, false) = (x, ((a ++ bindB x).size, false)) := by
  obtain ⟨z0, z1, z2, z3⟩ := ok_sizes hx
  have e1 : p = a ++ text x.f0 ++ (text x.f1 ++ num x.f2 ++ q) := by rw [h]; unfold bindB; simp only [ByteArray.append_assoc]
  have e2 : p = (a ++ text x.f0) ++ text x.f1 ++ (num x.f2 ++ q) := by rw [h]; unfold bindB; simp only [ByteArray.append_assoc]
  have e3 : p = (a ++ text x.f0 ++ text x.f1) ++ num x.f2 ++ q := by rw [h]; unfold bindB; simp only [ByteArray.append_assoc]
  have t1 := rdT_at p a x.f0 _ 12 (by omega) e1 (by omega)
  have t2 := rdT_at p (a ++ text x.f0) x.f1 _ 12 (by omega) e2 (by omega)
  have t3 := rdN_at p (a ++ text x.f0 ++ text x.f1) _ x.f2 (by omega) (by omega) e3
  unfold rdB
  rw [t1]
  dsimp only
  rw [t2]
  dsimp only
  rw [t3]
  have ea : a ++ bindB x = a ++ text x.f0 ++ text x.f1 ++ num x.f2 := by unfold bindB; simp only [ByteArray.append_assoc]
  rw [ea]
theorem rdBs_at (l : List S42) (p pre : ByteArray) (h : p = pre ++ bindsB l) (hok : ∀ x ∈ l, okB x = true) : ∀ d i, i ≤ l.length → l.length ≤ i + d → rdBs p (l.length : Int) d i (l.take i) ((pre ++ bindsB (l.take i)).size, false) = (l, (p.size, false))
  | 0, i, h1, h2 => by
    obtain rfl : i = l.length := by omega
    rw [rdBs, List.take_length, h]
  | d + 1, i, h1, h2 => by
    by_cases hi : i < l.length
    · have hs := bindsB_snoc l i hi
      have hp : p = (pre ++ bindsB (l.take i)) ++ bindB l[i] ++ bindsB (l.drop (i + 1)) := by
        rw [h, ByteArray.append_assoc, ByteArray.append_assoc, ← ByteArray.append_assoc (a := bindsB (l.take i)), ← hs, ← bindsB_append, List.take_append_drop]
      have hb := rdB_at p _ _ l[i] (hok _ (List.getElem_mem hi)) hp
      rw [rdBs, if_pos ⟨by omega, rfl⟩, hb]
      dsimp only
      rw [← List.take_succ_eq_append_getElem hi, ByteArray.append_assoc, ← hs]
      exact rdBs_at l p pre h hok d (i + 1) hi (by omega)
    · obtain rfl : i = l.length := by omega
      rw [rdBs, if_neg (by simp), List.take_length, h]
/-- what is laid is taken up -/
theorem payload_fine {a0 a1 a2 a3 a4 a5 : Int} {l : List S42} (h : rightS a0 a1 a2 a3 a4 a5 l = true) (p : ByteArray) (hp : p = payload a0 a1 a2 a3 a4 a5 l) :
    rdV p (0, false) 0 = a0 ∧ rdV p (0, false) 1 = a1 ∧ rdV p (0, false) 2 = a2 ∧ rdV p (0, false) 3 = a3 ∧ rdV p (0, false) 4 = a4 ∧ rdV p (0, false) 5 = a5 ∧ rdV p (0, false) 6 = (l.length : Int) ∧ inside p = (l, (p.size, false)) ∧ fine p = true := by
  obtain ⟨hrg, hl, hok⟩ := right_in h
  have hx : ∀ x ∈ [a0, a1, a2, a3, a4, a5, (l.length : Int)], -9223372036854775808 ≤ x ∧ x ≤ 9223372036854775807 := by
    intro x hx
    simp only [List.mem_cons, List.not_mem_nil, or_false] at hx
    rcases hx with rfl | rfl | rfl | rfl | rfl | rfl | rfl <;> omega
  have hv := numV_at _ p (bindsB l) hp hx
  have v0 := hv 0 (by simp)
  have v1 := hv 1 (by simp)
  have v2 := hv 2 (by simp)
  have v3 := hv 3 (by simp)
  have v4 := hv 4 (by simp)
  have v5 := hv 5 (by simp)
  have v6 := hv 6 (by simp)
  have s7 := nums_at _ p (bindsB l) hp hx 7 (by simp)
  rw [List.take_of_length_le (by simp)] at s7
  simp only [List.getElem_cons_zero, List.getElem_cons_succ] at v0 v1 v2 v3 v4 v5 v6
  have hin : inside p = (l, (p.size, false)) := by
    unfold inside
    rw [v6, s7]
    have := rdBs_at l p (Pt.nums [a0, a1, a2, a3, a4, a5, (l.length : Int)]) hp hok 65 0 (Nat.zero_le _) (by omega)
    simpa [bindsB] using this
  refine ⟨v0, v1, v2, v3, v4, v5, v6, hin, ?_⟩
  unfold fine
  rw [hin, v0, v1, v2, v3, v4, v5, v6, h]
  have : ¬ ((l.length : Int) < 0) := by omega
  simp [ends, this]
theorem get_put {a0 a1 a2 a3 a4 a5 : Int} {l : List S42} (h : rightS a0 a1 a2 a3 a4 a5 l = true) : getS (fr (payload a0 a1 a2 a3 a4 a5 l)) = (a0, a1, a2, a3, a4, a5, l, 0) := by
  have hsz := payload_size h
  generalize hp : payload a0 a1 a2 a3 a4 a5 l = p at *
  obtain ⟨v0, v1, v2, v3, v4, v5, v6, hin, hf⟩ := payload_fine h p hp.symm
  have ht : take (fr p) = (p, ((fr p).size : Int), 0) := by
    have := take_fr p ⟨#[]⟩ (by omega)
    rwa [app_empty] at this
  unfold getS
  rw [ht]
  dsimp only
  rw [if_pos ⟨rfl, rfl, hf⟩, v0, v1, v2, v3, v4, v5, hin]
/-- what is no whole frame is no message -/
theorem get_not {s : ByteArray} (h : (take s).2.2 ≠ 0 ∨ (take s).2.1 ≠ (s.size : Int)) : getS s = (0, 0, 0, 0, 0, 0, [], 160) := by
  unfold getS
  rw [if_neg (fun hh => h.elim (fun h => h hh.1) (fun h => h hh.2.1))]
end Go.Proofs.YtdgaancbeakfdaaDoor.Rd
