/- FrameAll: the plain law. -/
import Derived.Test.YtblhcbnejfmaaaaFal
import Derived.Test.YtblhcbnejfmaaaaQy6
import Derived.Test.YtblhcbnejfmaaaaQy5
namespace Go.Proofs.Ytblhcbnejfmaaaa.Allp
set_option linter.unusedVariables false
set_option linter.unusedSimpArgs false
open Go.RowKit Go.Proofs.YtblhcbnejfmaaaaW.PrintWords Go.Proofs.YtblhcbnejfmaaaaW.PrintLast Go.Proofs.YtblhcbnejfmaaaaW.PrintMore Go.Proofs.Ytblhcbnejfmaaaa.Num Go.Proofs.Ytblhcbnejfmaaaa.Vth Go.Proofs.Ytblhcbnejfmaaaa.Giv Go.Proofs.Ytblhcbnejfmaaaa.Q Go.Proofs.Ytblhcbnejfmaaaa.Vrd Go.Proofs.Ytblhcbnejfmaaaa.Fad Go.Proofs.Ytblhcbnejfmaaaa.Fth Go.Proofs.Ytblhcbnejfmaaaa.Fbk Go.Proofs.Ytblhcbnejfmaaaa.Fal
theorem pick_eq (a n : Int) (h1 : -9223372036854775808 ≤ a) (h2 : a ≤ 9223372036854775807) (hn : 0 < n) : ∃ m : Nat, billetlaw03_pick.f a n = some (m : Int) ∧ (m : Int) < n := by
  unfold billetlaw03_pick.f
  by_cases h : a < 0
  · rw [if_pos h, if_neg (by omega), wrap_in (a + 1) (by omega) (by omega), wrap_in _ (by omega) (by omega), Int.tmod_eq_emod_of_nonneg (by omega)]
    have := Int.emod_nonneg (-(a + 1)) (show n ≠ 0 by omega)
    have := Int.emod_lt_of_pos (-(a + 1)) hn
    exact ⟨(-(a + 1) % n).toNat, by congr 1; omega, by omega⟩
  · rw [if_neg h, if_neg (by omega), Int.tmod_eq_emod_of_nonneg (by omega)]
    have := Int.emod_nonneg a (show n ≠ 0 by omega)
    have := Int.emod_lt_of_pos a hn
    exact ⟨(a % n).toNat, by congr 1; omega, by omega⟩
theorem cat_size (ps : List ByteArray) (hp : ∀ p ∈ ps, p.size ≤ 4096) : (cat ps).size ≤ 4110 * ps.length := by
  induction ps with
  | nil => simp only [cat]; rw [show (⟨#[]⟩ : ByteArray).size = 0 from rfl]; omega
  | cons p ps ih =>
    have h1 := ih (fun q hq => hp q (by simp [hq]))
    have h2 := hp p (by simp)
    have h3 := fr_size p
    have h4 := num_size_bd p.size
    simp only [cat]
    rw [ByteArray.size_append, List.length_cons]
    omega
/-- the text that a last frame is told by -/
def lastOf : List ByteArray → ByteArray
  | [] => ⟨#[]⟩
  | p :: ps => fr ((p :: ps).getLast (by simp))
theorem last_snoc (ps : List ByteArray) (p : ByteArray) : lastOf (ps ++ [p]) = fr p := by
  cases ps with
  | nil => rfl
  | cons q qs => exact congrArg fr (List.getLast_concat (l := q :: qs))
theorem last_or (ps : List ByteArray) (hp : ∀ p ∈ ps, p.size ≤ 4096) : ps = [] ∧ lastOf ps = ⟨#[]⟩ ∨ ∃ p, p.size ≤ 4096 ∧ lastOf ps = fr p := by
  cases ps with
  | nil => exact .inl ⟨rfl, rfl⟩
  | cons q qs => exact .inr ⟨_, hp _ (List.getLast_mem _), rfl⟩
theorem end_ (k : Nat) (hk : 140000 ≤ k) (ps : List ByteArray) (hp : ∀ p ∈ ps, p.size ≤ 4096) (hl : ps.length ≤ 30) (a : Int) (h1 : -9223372036854775808 ≤ a) (h2 : a ≤ 9223372036854775807) :
    billetlaw03_FrameAll.j2 k a ps (cat ps) (lastOf ps) false = some true := by
  obtain ⟨k, rfl⟩ : ∃ m, k = m + 1 := ⟨k - 1, by omega⟩
  simp only [billetlaw03_FrameAll.j2]
  rw [if_neg (by simp)]
  have hcs := cat_size ps hp
  rcases last_or ps hp with ⟨_, e⟩ | ⟨p, hz, e⟩
  · rw [e, if_pos (by rw [toList_eq])]
  · have hs := fr_size p
    have hn := num_size_bd p.size
    rw [e, if_neg (fun h => by have := (empty_iff _).1 h; omega), wrap_in _ (by omega) (by omega)]
    obtain ⟨m, hm, hm2⟩ := pick_eq a ((fr p).size - 1 : Int) h1 h2 (by omega)
    rw [hm, Option.bind_some, wrap_in _ (by omega) (by omega), show (1 : Int) + m = ((1 + m : Nat) : Int) by omega, if_pos (by omega), if_pos (by omega), Int.toNat_natCast]
    have ht := take_cut p hz (1 + m) (by omega)
    have hz2 : ((fr p).extract 0 (1 + m)).size = 1 + m := by rw [ByteArray.size_extract]; omega
    generalize (fr p).extract 0 (1 + m) = r at *
    rw [if_pos (by omega), All_eq k _ (by rw [ByteArray.size_append]; omega) (by rw [ByteArray.size_append]; omega), Option.bind_some]
    have hr : all r.size r = ([], 0, 30) := by
      rw [hz2, Nat.add_comm 1 m]
      simp only [all]
      rw [if_neg (by omega), ht]
      rfl
    have hall : all (cat ps ++ r).size (cat ps ++ r) = (ps, (cat ps).size, 30) := by
      rw [all_cat ps r hp, hr]; simp
    rw [hall, same_self k ps (by omega) (by omega), Option.bind_some, if_pos rfl, if_pos rfl]
    rfl
theorem loop (k0 : Nat) (hk0 : 150000 ≤ k0) (l : List ByteArray) (hl : l.length ≤ 4611686018427387904) (hq : ∀ i : Nat, i < l.length → (rdOf ByteArray.empty l i).size ≤ 4611686018427387904) (a : Int) (h1 : -9223372036854775808 ≤ a) (h2 : a ≤ 9223372036854775807) (d : Nat) :
    ∀ (k i : Nat) (ps : List ByteArray), i + d = 30 → k0 + 2 * d + 2 ≤ k → ps.length = i → i ≤ l.length → (∀ p ∈ ps, p.size ≤ 4096) → billetlaw03_FrameAll.l0 k l a true ps (cat ps) (lastOf ps) i = some true := by
  have fin : ∀ (k i : Nat) (ps : List ByteArray), k0 ≤ k → ps.length = i → i ≤ 30 → (∀ p ∈ ps, p.size ≤ 4096) → billetlaw03_FrameAll.j1 k l a true ps (cat ps) (lastOf ps) i false = some true := by
    intro k i ps hk hi h30 hp
    obtain ⟨k, rfl⟩ : ∃ m, k = m + 1 := ⟨k - 1, by omega⟩
    have hcs := cat_size ps hp
    have ha : all (cat ps).size (cat ps) = (ps, (cat ps).size, 0) := by
      have ha := all_cat ps ⟨#[]⟩ hp
      rw [app_empty, show (⟨#[]⟩ : ByteArray).size = 0 from rfl] at ha
      rw [ha]; simp [all]
    simp only [billetlaw03_FrameAll.j1]
    rw [if_neg (by simp), All_eq k _ (by omega) (by omega), Option.bind_some, ha, if_pos trivial, same_self k ps (by omega) (by omega), Option.bind_some, if_pos rfl, if_pos rfl]
    exact end_ k (by omega) ps hp (by omega) a h1 h2
  induction d with
  | zero =>
    intro k i ps hd hk hi hil hp
    obtain ⟨k, rfl⟩ : ∃ m, k = m + 1 := ⟨k - 1, by omega⟩
    simp only [billetlaw03_FrameAll.l0]
    have e : decide ((i : Int) < 30) = false := by simp; omega
    rw [e]
    split
    · exact fin k i ps (by omega) hi (by omega) hp
    · exact fin k i ps (by omega) hi (by omega) hp
  | succ d ih =>
    intro k i ps hd hk hi hil hp
    obtain ⟨k, rfl⟩ : ∃ m, k = m + 2 := ⟨k - 2, by omega⟩
    simp only [billetlaw03_FrameAll.l0]
    by_cases h : i < l.length
    · have e : decide ((i : Int) < 30) = true := by simp; omega
      rw [if_pos (by omega), e]
      simp only [billetlaw03_FrameAll.j1]
      have hqi := hq i h
      generalize rdOf ByteArray.empty l (i : Int) = q at *
      rw [if_pos trivial, if_pos (by omega), if_pos (by omega), mn_eq, if_pos (by omega), if_pos (by omega), Int.toNat_natCast]
      have hz : (q.extract 0 (min q.size 4096)).size ≤ 4096 := by rw [ByteArray.size_extract]; omega
      generalize q.extract 0 (min q.size 4096) = p at *
      have hs := fr_size p
      have hn := num_size_bd p.size
      have hcs := cat_size ps hp
      rw [Lay_eq k p hz (by omega), Option.bind_some, if_pos rfl]
      dsimp only
      rw [if_neg (by omega), if_pos (by omega), if_pos (by omega), wrap_in _ (by omega) (by omega), show (i : Int) + 1 = ((i + 1 : Nat) : Int) by omega, ← cat_snoc, ← last_snoc ps p]
      refine ih k (i + 1) (ps ++ [p]) (by omega) (by omega) (by rw [List.length_append, List.length_singleton, hi]) (by omega) ?_
      intro x hx
      rcases List.mem_append.1 hx with hx | hx
      · exact hp x hx
      · rw [List.mem_singleton.1 hx]; exact hz
    · rw [if_neg (by omega)]
      exact fin (k + 1) i ps (by omega) hi (by omega) hp
theorem FrameAll (l : List ByteArray) (a : Int) (hl : l.length ≤ 4611686018427387904) (hq : ∀ i : Nat, i < l.length → (rdOf ByteArray.empty l i).size ≤ 4611686018427387904) (ha : (Lit.int .i64 a).wf = true) : ∃ k, billetlaw03_FrameAll.f k l a = some true := by
  have ha := int64_bd ha
  refine ⟨160000, ?_⟩
  generalize hk : (160000 : Nat) = k
  unfold billetlaw03_FrameAll.f
  rw [awake_yes k (by omega), Option.bind_some]
  exact loop 150000 (by omega) l hl hq a ha.1 ha.2 30 k 0 [] rfl (by omega) rfl (by omega) (by simp)
theorem walk (A0 : Option Addr) (c0 : Nat) (l0 : List ByteArray) (a1 : Int) (w : World) (hr0 : Kd.C Kd.string w A0 l0.length l0) (hc0 : l0.length ≤ c0)
    (hV0 : l0.length ≤ maxLen ∧ l0.length * 16 ≤ 140737488351232 ∧ ∀ x ∈ l0, x.size ≤ 140737488351232) (w1 : (Lit.int .i64 a1).wf = true) :
    Calls Try.prog 8 #[.slice A0 l0.length c0, .int .i64 a1] w fun e w' => e = .returned (.bool true) ∧ Below w.heap.size w w' := by
  obtain ⟨k, hk⟩ := FrameAll l0 a1 (by omega) (fun i hi => by
    have h := hV0.2.2 l0[i] (List.getElem_mem hi)
    have e : rdOf ByteArray.empty l0 (i : Int) = l0[i] := by unfold rdOf; simp [List.getD_eq_getElem?_getD, List.getElem?_eq_getElem hi]
    rw [e]; omega) w1
  exact billetlaw03_FrameAll.calls k A0 c0 l0 a1 true w hr0 hc0 hk
end Go.Proofs.Ytblhcbnejfmaaaa.Allp
