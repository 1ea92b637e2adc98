/- FrameParts: the plain law. -/
import Derived.Test.YtblhcbnejfmaaaaFal
import Derived.Test.YtblhcbnejfmaaaaQy8
namespace Go.Proofs.Ytblhcbnejfmaaaa.Parts
set_option linter.unusedVariables false
set_option linter.unusedSimpArgs false
open Go.RowKit Go.Proofs.YtblhcbnejfmaaaaW.PrintWords Go.Proofs.YtblhcbnejfmaaaaW.PrintLast Go.Proofs.YtblhcbnejfmaaaaW.PrintMore Go.Proofs.Ytblhcbnejfmaaaa.Num Go.Proofs.Ytblhcbnejfmaaaa.Vth Go.Proofs.Ytblhcbnejfmaaaa.Giv Go.Proofs.Ytblhcbnejfmaaaa.Q Go.Proofs.Ytblhcbnejfmaaaa.Vrd Go.Proofs.Ytblhcbnejfmaaaa.Fad Go.Proofs.Ytblhcbnejfmaaaa.Fth Go.Proofs.Ytblhcbnejfmaaaa.Fbk Go.Proofs.Ytblhcbnejfmaaaa.Fal
theorem cat_size (ps : List ByteArray) (hp : ∀ p ∈ ps, p.size ≤ 4096) : (cat ps).size ≤ 4110 * ps.length := by
  induction ps with
  | nil => simp only [cat]; rw [show (⟨#[]⟩ : ByteArray).size = 0 from rfl]; omega
  | cons p ps ih =>
    have h1 := ih (fun q hq => hp q (by simp [hq]))
    have h2 := hp p (by simp)
    have h3 := fr_size p
    have h4 := num_size_bd p.size
    simp only [cat]
    rw [ByteArray.size_append, List.length_cons]
    omega
theorem mn500 (n : Nat) : mn (n : Int) 500 = ((min n 500 : Nat) : Int) := by unfold mn; split <;> omega
theorem end_ (k : Nat) (ps : List ByteArray) (r : ByteArray) (hk : 200000 + 2 * r.size ≤ k) (hr : r.size ≤ 1048576) (hp : ∀ p ∈ ps, p.size ≤ 4096) (hl : ps.length ≤ 12) : billetlaw03_FrameParts.j1 k r true (cat ps) = some true := by
  obtain ⟨k, rfl⟩ : ∃ m, k = m + 1 := ⟨k - 1, by omega⟩
  have hcs := cat_size ps hp
  have ha : all (cat ps).size (cat ps) = (ps, (cat ps).size, 0) := by
    have ha := all_cat ps ⟨#[]⟩ hp
    rw [app_empty, show (⟨#[]⟩ : ByteArray).size = 0 from rfl] at ha
    rw [ha]; simp [all]
  have hb := all_cat ps r hp
  have hlen := all_len r.size r
  have hus := all_used r.size r
  simp only [billetlaw03_FrameParts.j1]
  rw [All_eq k _ (by omega) (by omega), Option.bind_some, All_eq k r (by omega) (by omega), Option.bind_some, if_pos (by omega), All_eq k _ (by rw [ByteArray.size_append]; omega) (by rw [ByteArray.size_append]; omega), Option.bind_some, ha, hb]
  generalize all r.size r = x at *
  obtain ⟨L, m, g⟩ := x
  dsimp only at *
  rw [if_pos trivial, if_pos rfl, if_pos rfl, wrap_in _ (by omega) (by omega), if_pos (by omega), if_pos rfl, if_pos (show ([] : List ByteArray).length + ps.length < 8796093022208 by rw [List.length_nil]; omega), Option.bind_some, List.nil_append, if_pos (by omega),
    same_self k _ (by rw [List.length_append]; omega) (by rw [List.length_append]; omega), Option.bind_some]
theorem loop (k0 : Nat) (l : List ByteArray) (r : ByteArray) (hk0 : 200000 + 2 * r.size ≤ k0) (hr : r.size ≤ 1048576) (hl : l.length ≤ 4611686018427387904) (hq : ∀ i : Nat, i < l.length → (rdOf ByteArray.empty l i).size ≤ 4611686018427387904) (d : Nat) :
    ∀ (k i : Nat) (ps : List ByteArray), i + d = 12 → k0 + 2 * d + 2 ≤ k → ps.length = i → i ≤ l.length → (∀ p ∈ ps, p.size ≤ 4096) → billetlaw03_FrameParts.l0 k l r true (cat ps) i = some true := by
  induction d with
  | zero =>
    intro k i ps hd hk hi hil hp
    obtain ⟨k, rfl⟩ : ∃ m, k = m + 1 := ⟨k - 1, by omega⟩
    simp only [billetlaw03_FrameParts.l0]
    rw [if_neg (show ¬ (i : Int) < 12 by omega)]
    split
    · exact end_ k ps r (by omega) hr hp (by omega)
    · exact end_ k ps r (by omega) hr hp (by omega)
  | succ d ih =>
    intro k i ps hd hk hi hil hp
    obtain ⟨k, rfl⟩ : ∃ m, k = m + 1 := ⟨k - 1, by omega⟩
    simp only [billetlaw03_FrameParts.l0]
    by_cases h : i < l.length
    · have hqi := hq i h
      generalize rdOf ByteArray.empty l (i : Int) = q at *
      rw [if_pos (by omega), if_pos (by omega), if_pos (by omega), mn500, if_pos (by omega), if_pos (by omega), Int.toNat_natCast]
      have hz : (q.extract 0 (min q.size 500)).size ≤ 4096 := by rw [ByteArray.size_extract]; omega
      generalize q.extract 0 (min q.size 500) = p at *
      have hs := fr_size p
      have hn := num_size_bd p.size
      have hcs := cat_size ps hp
      rw [Lay_eq k p hz (by omega), Option.bind_some]
      dsimp only
      rw [if_pos (by omega), wrap_in _ (by omega) (by omega), show (i : Int) + 1 = ((i + 1 : Nat) : Int) by omega, ← cat_snoc]
      refine ih k (i + 1) (ps ++ [p]) (by omega) (by omega) (by rw [List.length_append, List.length_singleton, hi]) (by omega) ?_
      intro x hx
      rcases List.mem_append.1 hx with hx | hx
      · exact hp x hx
      · rw [List.mem_singleton.1 hx]; exact hz
    · rw [if_neg (by omega)]
      exact end_ k ps r (by omega) hr hp (by omega)
theorem FrameParts (l : List ByteArray) (r : ByteArray) (hr : r.size ≤ 1048576) (hl : l.length ≤ 4611686018427387904) (hq : ∀ i : Nat, i < l.length → (rdOf ByteArray.empty l i).size ≤ 4611686018427387904) : ∃ k, billetlaw03_FrameParts.f k l r = some true := by
  refine ⟨200000 + 2 * r.size + 100, ?_⟩
  generalize hk : 200000 + 2 * r.size + 100 = k
  unfold billetlaw03_FrameParts.f
  rw [awake_yes k (by omega), Option.bind_some]
  exact loop (200000 + 2 * r.size) l r (by omega) hr hl hq 12 k 0 [] rfl (by omega) rfl (by omega) (by simp)
theorem walk (A0 : Option Addr) (c0 : Nat) (l0 : List ByteArray) (a1 : ByteArray) (w : World) (hr0 : Kd.C Kd.string w A0 l0.length l0) (hc0 : l0.length ≤ c0)
    (hV0 : l0.length ≤ maxLen ∧ l0.length * 16 ≤ 140737488351232 ∧ ∀ x ∈ l0, x.size ≤ 140737488351232) (w1 : a1.size ≤ 140737488351232) (u1 : a1.size ≤ 1048576) :
    Calls Try.prog 9 #[.slice A0 l0.length c0, .string a1] w fun e w' => e = .returned (.bool true) ∧ Below w.heap.size w w' := by
  obtain ⟨k, hk⟩ := FrameParts l0 a1 u1 (by omega) (fun i hi => by
    have h := hV0.2.2 l0[i] (List.getElem_mem hi)
    have e : rdOf ByteArray.empty l0 (i : Int) = l0[i] := by unfold rdOf; simp [List.getD_eq_getElem?_getD, List.getElem?_eq_getElem hi]
    rw [e]; omega)
  exact billetlaw03_FrameParts.calls k A0 c0 l0 a1 true w hr0 hc0 hk
end Go.Proofs.Ytblhcbnejfmaaaa.Parts
