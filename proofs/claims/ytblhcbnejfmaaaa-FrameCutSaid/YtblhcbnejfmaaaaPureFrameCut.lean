import Derived.Test.YtblhcbnejfmaaaaFbk
import Derived.Test.YtblhcbnejfmaaaaQx38
import Derived.Test.YtblhcbnejfmaaaaQx40
namespace Go.Proofs.Ytblhcbnejfmaaaa.Pure
open Go.RowKit Go.Proofs.YtblhcbnejfmaaaaW.PrintWords Go.Proofs.YtblhcbnejfmaaaaW.PrintLast Go.Proofs.YtblhcbnejfmaaaaW.PrintMore Go.Proofs.Ytblhcbnejfmaaaa.Num Go.Proofs.Ytblhcbnejfmaaaa.Vth Go.Proofs.Ytblhcbnejfmaaaa.Giv Go.Proofs.Ytblhcbnejfmaaaa.Q Go.Proofs.Ytblhcbnejfmaaaa.Vrd Go.Proofs.Ytblhcbnejfmaaaa.Fad Go.Proofs.Ytblhcbnejfmaaaa.Fth Go.Proofs.Ytblhcbnejfmaaaa.Fbk
set_option linter.unusedVariables false
theorem pick_eq (a n : Int) (h1 : -9223372036854775808 ≤ a) (h2 : a ≤ 9223372036854775807) (hn : 0 < n) : ∃ m : Nat, billetlaw03_pick.f a n = some (m : Int) ∧ (m : Int) < n := by
  unfold billetlaw03_pick.f
  by_cases h : a < 0
  · rw [if_pos h, if_neg (by omega), wrap_in (a + 1) (by omega) (by omega), wrap_in _ (by omega) (by omega), Int.tmod_eq_emod_of_nonneg (by omega)]
    have := Int.emod_nonneg (-(a + 1)) (show n ≠ 0 by omega)
    have := Int.emod_lt_of_pos (-(a + 1)) hn
    exact ⟨(-(a + 1) % n).toNat, by congr 1; omega, by omega⟩
  · rw [if_neg h, if_neg (by omega), Int.tmod_eq_emod_of_nonneg (by omega)]
    have := Int.emod_nonneg a (show n ≠ 0 by omega)
    have := Int.emod_lt_of_pos a hn
    exact ⟨(a % n).toNat, by congr 1; omega, by omega⟩
theorem FrameCut : billetlaw03_FrameCut.Pure := by
  intro a c ha hc
  have hc := int64_bd hc
  refine ⟨7001, ?_⟩
  generalize hk : (7000 : Nat) = k
  rw [show (7001 : Nat) = k + 1 by omega]
  unfold billetlaw03_FrameCut.f
  rw [awake_yes (k + 1) (by omega), Option.bind_some, mn_eq, if_pos (by omega), if_pos (by omega), Int.toNat_natCast]
  have hz : (a.extract 0 (min a.size 4096)).size ≤ 4096 := by rw [ByteArray.size_extract]; omega
  generalize a.extract 0 (min a.size 4096) = p at *
  have hn := num_size_bd p.size
  have hs := fr_size p
  obtain ⟨m, hm, hm2⟩ := pick_eq c ((fr p).size : Int) hc.1 hc.2 (by omega)
  rw [Lay_eq (k + 1) p hz (by omega), Option.bind_some]
  dsimp only
  rw [if_pos rfl, if_pos rfl]
  simp only [billetlaw03_FrameCut.j0]
  rw [if_neg (by simp; omega), hm, Option.bind_some, if_pos (by omega), if_pos (by omega), Int.toNat_natCast, Take_eq k (by omega) _ (by rw [ByteArray.size_extract]; omega), Option.bind_some, take_cut p hz m (by omega)]
  dsimp only
  rw [if_pos (by rw [toList_eq]), if_pos rfl]
  rfl
end Go.Proofs.Ytblhcbnejfmaaaa.Pure
