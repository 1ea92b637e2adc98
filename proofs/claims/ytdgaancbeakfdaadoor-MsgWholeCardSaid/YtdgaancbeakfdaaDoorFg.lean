/- Fit gives messages that may be; a message's size. -/
import Derived.Test.YtdgaancbeakfdaaDoorGd
import Derived.Test.YtdgaancbeakfdaaDoorRd
namespace Go.Proofs.YtdgaancbeakfdaaDoor.Fg
open Go.RowKit Go.Proofs.YtdgaancbeakfdaaDoorW.PrintWords Go.Proofs.YtdgaancbeakfdaaDoor.Num Go.Proofs.YtdgaancbeakfdaaDoor.Vth Go.Proofs.YtdgaancbeakfdaaDoor.Vrd Go.Proofs.YtdgaancbeakfdaaDoor.Fth Go.Proofs.YtdgaancbeakfdaaDoor.Fbk Go.Proofs.YtdgaancbeakfdaaDoor.Giv Go.Proofs.YtdgaancbeakfdaaDoor.Q Go.Proofs.YtdgaancbeakfdaaDoor.Rt Go.Proofs.YtdgaancbeakfdaaDoor.Pt Go.Proofs.YtdgaancbeakfdaaDoor.Pp Go.Proofs.YtdgaancbeakfdaaDoor.Gp Go.Proofs.YtdgaancbeakfdaaDoor.Rd
set_option linter.unusedVariables false
set_option linter.unusedSimpArgs false
theorem fit_any (a0 a1 a2 a3 a4 a5 : Int) (l0 : List S42) (l : List Int) (h0 : I64 a0) (h5 : I64 a5) (hl : ∀ x ∈ l, I64 x) : ∃ k, billetlaw16_Fit.f k a0 a1 a2 a3 a4 a5 l0 l = some (1 + pk a0 2, pk a1 3, pk a2 1099511627777, pk a3 1099511627777, pk a4 1099511627777, pk a5 2199023255552 - 1000, fbS l) := by
  obtain ⟨k, hk⟩ := fit_l0 (rawS l) (rawS_len l) (1 + pk a0 2) (pk a1 3) (pk a2 1099511627777) (pk a3 1099511627777) (pk a4 1099511627777) (pk a5 2199023255552 - 1000) (rawS l).length 0 [] (by omega) (Nat.le_refl _)
  obtain ⟨K, h1, h2⟩ := together (g := fun k => billetlaw08_Binds.f k l) (f := fun k => billetlaw16_Fit.l0 k (rawS l) 0 (1 + pk a0 2) (pk a1 3) (pk a2 1099511627777) (pk a3 1099511627777) (pk a4 1099511627777) (pk a5 2199023255552 - 1000) []) (fun k => billetlaw08_Binds.mono l k) (fun k => (billetlaw16_Fit.mono_l k).1 _ _ _ _ _ _ _ _ _) ⟨30, binds_eq l hl⟩ ⟨k, hk⟩
  refine ⟨K, ?_⟩
  have p0 := pk_in (n := 2) h0 (by decide)
  have p5 := pk_in (n := 2199023255552) h5 (by decide)
  unfold billetlaw16_Fit.f
  rw [pk16 _ _ (by decide), pk16 _ _ (by decide), pk16 _ _ (by decide), pk16 _ _ (by decide), pk16 _ _ (by decide), pk16 _ _ (by decide), Option.bind_some, Option.bind_some, Option.bind_some, Option.bind_some, Option.bind_some, Option.bind_some]
  simp only [h1, Option.bind_some]
  rw [wrap_in (1 + pk a0 2) (by omega) (by omega), wrap_in (pk a5 2199023255552 - 1000) (by omega) (by omega)]
  exact h2
theorem fold_len : ∀ (bs o : List S42), (bs.foldl (fun o b => ins1 (more1 b) false o) o).length ≤ o.length + bs.length
  | [], o => by simp
  | b :: bs, o => by
    have h1 := fold_len bs (ins1 (more1 b) false o)
    have h2 := ins1_len (more1 b) false o
    simp at h1 h2 ⊢
    omega
theorem fbS_len (l : List Int) : (fbS l).length ≤ 20 := by
  have h1 := fold_len (rawS l) []
  have h2 := rawS_len l
  simp at h1
  unfold fbS; omega
theorem fbS_srt (l : List Int) (hl : ∀ x ∈ l, I64 x) : Srt (fbS l) ∧ ∀ x ∈ fbS l, okB x = true := by
  refine fold_srt (rawS l) [] List.Pairwise.nil (by simp) (fun x hx => ?_)
  unfold rawS at hx
  rw [List.mem_map] at hx
  obtain ⟨y, hy, rfl⟩ := hx
  exact ok_bind1 (hl y (List.mem_of_mem_take hy))
/-- the ranges that Fit gives -/
theorem fit_ranges {a0 a1 a2 a3 a4 a5 : Int} (h0 : I64 a0) (h1 : I64 a1) (h2 : I64 a2) (h3 : I64 a3) (h4 : I64 a4) (h5 : I64 a5) : ranges (1 + pk a0 2) (pk a1 3) (pk a2 1099511627777) (pk a3 1099511627777) (pk a4 1099511627777) (pk a5 2199023255552 - 1000) = true := by
  have p0 := pk_in (n := 2) h0 (by decide)
  have p1 := pk_in (n := 3) h1 (by decide)
  have p2 := pk_in (n := 1099511627777) h2 (by decide)
  have p3 := pk_in (n := 1099511627777) h3 (by decide)
  have p4 := pk_in (n := 1099511627777) h4 (by decide)
  have p5 := pk_in (n := 2199023255552) h5 (by decide)
  unfold ranges
  simp only [Bool.and_eq_true, decide_eq_true_eq]
  omega
theorem right_of {a0 a1 a2 a3 a4 a5 : Int} {l : List S42} (hr : ranges a0 a1 a2 a3 a4 a5 = true) (hl : l.length ≤ 64) (hs : Srt l) (ho : ∀ x ∈ l, okB x = true) : rightS a0 a1 a2 a3 a4 a5 l = true := by
  unfold rightS
  rw [hr, decide_eq_true hl, goods_of hs ho l.length 0 (by omega)]; rfl
theorem num_mono {n m : Nat} (h : n ≤ m) (hm : m ≤ 4096) : (num n).size ≤ (num m).size := by
  have a := num_cut n (by omega)
  have b := num_size_bd m
  have c := num_size_bd n
  by_cases e : (num n).size = 2
  · have h64 := a.2.1 e
    have hm2 : (num m).size ≠ 1 := by
      intro h1
      rw [num_size] at h1
      have hz : zig (m : Int) = 2 * m := by unfold zig; split <;> omega
      rw [hz, digs] at h1
      rw [if_pos (by omega)] at h1
      have := digs_ne 8 ((2 * (m : Int)) / 128)
      cases hd : digs 8 ((2 * (m : Int)) / 128) with
      | nil => exact this hd
      | cons x y => rw [hd] at h1; simp at h1
    omega
  · omega
theorem fr_mono {a b : ByteArray} (h : a.size < b.size) (hb : b.size ≤ 4096) : (fr a).size < (fr b).size := by
  rw [fr_size, fr_size]
  have := num_mono (n := a.size) (m := b.size) (by omega) hb
  omega
theorem nums_ge : ∀ xs : List Int, xs.length ≤ (Pt.nums xs).size
  | [] => by simp
  | x :: xs => by
    have := nums_ge xs
    have := num_size_bd x
    simp only [Pt.nums, ByteArray.size_append, List.length_cons]
    omega
theorem short {a0 a1 a2 a3 a4 a5 : Int} {l : List S42} (h : rightS a0 a1 a2 a3 a4 a5 l = true) : 12 ≤ (fr (payload a0 a1 a2 a3 a4 a5 l)).size ∧ (fr (payload a0 a1 a2 a3 a4 a5 l)).size ≤ 4100 := by
  have h1 := payload_size h
  have h2 := nums_ge [a0, a1, a2, a3, a4, a5, (l.length : Int)]
  have h3 : 7 ≤ (payload a0 a1 a2 a3 a4 a5 l).size := by unfold payload; rw [ByteArray.size_append]; simp at h2; omega
  have h4 := (num_cut (payload a0 a1 a2 a3 a4 a5 l).size (by omega)).1
  have h5 := num_size_bd (payload a0 a1 a2 a3 a4 a5 l).size
  rw [fr_size]
  omega
theorem payload_shorter (a0 a1 a2 a3 a4 a5 : Int) (l : List S42) (n : Nat) (hn : n + 1 = l.length) (hl : l.length ≤ 64) : (payload a0 a1 a2 a3 a4 a5 (l.take n)).size < (payload a0 a1 a2 a3 a4 a5 l).size := by
  have e1 : (l.take n).length = n := by rw [List.length_take]; omega
  have e2 := bindsB_snoc l n (by omega)
  rw [List.take_of_length_le (i := n + 1) (by omega)] at e2
  have e3 := num_size_bd (l[n]'(by omega)).f2
  have e4 := num_mono (n := n) (m := l.length) (by omega) (by omega)
  unfold payload
  rw [e1, e2]
  simp only [Pt.nums, ByteArray.size_append, bindB]
  omega
end Go.Proofs.YtdgaancbeakfdaaDoor.Fg
