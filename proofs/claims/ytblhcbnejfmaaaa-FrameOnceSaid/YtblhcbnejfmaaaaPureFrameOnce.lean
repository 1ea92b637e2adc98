import Derived.Test.YtblhcbnejfmaaaaFbk
import Derived.Test.YtblhcbnejfmaaaaQx42
namespace Go.Proofs.Ytblhcbnejfmaaaa.Pure
open Go.RowKit Go.Proofs.YtblhcbnejfmaaaaW.PrintWords Go.Proofs.YtblhcbnejfmaaaaW.PrintLast Go.Proofs.YtblhcbnejfmaaaaW.PrintMore Go.Proofs.Ytblhcbnejfmaaaa.Num Go.Proofs.Ytblhcbnejfmaaaa.Vth Go.Proofs.Ytblhcbnejfmaaaa.Giv Go.Proofs.Ytblhcbnejfmaaaa.Q Go.Proofs.Ytblhcbnejfmaaaa.Vrd Go.Proofs.Ytblhcbnejfmaaaa.Fad Go.Proofs.Ytblhcbnejfmaaaa.Fth Go.Proofs.Ytblhcbnejfmaaaa.Fbk
set_option linter.unusedVariables false
theorem mn_nat (m n : Nat) : mn (m : Int) n = ((min m n : Nat) : Int) := by unfold mn; split <;> omega
theorem FrameOnce : billetlaw03_FrameOnce.Pure := by
  intro a b ha hb
  refine ⟨7000, ?_⟩
  generalize hk : (7000 : Nat) = k
  unfold billetlaw03_FrameOnce.f
  rw [awake_yes k (by omega), Option.bind_some, mn_eq, mn_eq, if_pos (by omega), if_pos (by omega), if_pos (by omega), if_pos (by omega), Int.toNat_natCast, Int.toNat_natCast]
  have hz : (a.extract 0 (min a.size 4096)).size ≤ 4096 := by rw [ByteArray.size_extract]; omega
  have hy : (b.extract 0 (min b.size 4096)).size ≤ 4096 := by rw [ByteArray.size_extract]; omega
  generalize a.extract 0 (min a.size 4096) = p at *
  generalize b.extract 0 (min b.size 4096) = q at *
  have hn := num_size_bd p.size
  have hs := fr_size p
  have hn2 := num_size_bd q.size
  have hs2 := fr_size q
  rw [Lay_eq k p hz (by omega), Option.bind_some, Lay_eq k q hy (by omega), Option.bind_some]
  dsimp only
  rw [if_pos rfl, if_pos rfl, if_pos rfl, mn_nat, if_pos (by omega), if_pos (by omega), if_pos (by omega), if_pos (by omega), Int.toNat_natCast]
  congr 1
  rw [beq_iff_eq, Bool.eq_iff_iff, beq_iff_eq, beq_iff_eq, toList_iff, toList_iff]
  constructor
  · intro h
    exact fr_once p q hz hy (min (fr p).size (fr q).size) (by omega) h (by omega) (by omega)
  · rintro rfl; rfl
end Go.Proofs.Ytblhcbnejfmaaaa.Pure
