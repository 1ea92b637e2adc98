import Derived.Test.YtblhcbnejfmaaaaFbk
import Derived.Test.YtblhcbnejfmaaaaQx37
namespace Go.Proofs.Ytblhcbnejfmaaaa.Pure
open Go.RowKit Go.Proofs.YtblhcbnejfmaaaaW.PrintWords Go.Proofs.YtblhcbnejfmaaaaW.PrintLast Go.Proofs.YtblhcbnejfmaaaaW.PrintMore Go.Proofs.Ytblhcbnejfmaaaa.Num Go.Proofs.Ytblhcbnejfmaaaa.Vth Go.Proofs.Ytblhcbnejfmaaaa.Giv Go.Proofs.Ytblhcbnejfmaaaa.Q Go.Proofs.Ytblhcbnejfmaaaa.Vrd Go.Proofs.Ytblhcbnejfmaaaa.Fad Go.Proofs.Ytblhcbnejfmaaaa.Fth Go.Proofs.Ytblhcbnejfmaaaa.Fbk
set_option linter.unusedVariables false
theorem FrameBack : billetlaw03_FrameBack.Pure := by
  intro a r ha hr
  refine ⟨7000, ?_⟩
  generalize hk : (7000 : Nat) = k
  unfold billetlaw03_FrameBack.f
  rw [awake_yes k (by omega), Option.bind_some, mn_eq, if_pos (by omega), if_pos (by omega), Int.toNat_natCast]
  have hz : (a.extract 0 (min a.size 4096)).size ≤ 4096 := by rw [ByteArray.size_extract]; omega
  generalize a.extract 0 (min a.size 4096) = p at *
  have hn := num_size_bd p.size
  have hs := fr_size p
  rw [Lay_eq k p hz (by omega), Option.bind_some]
  dsimp only
  rw [if_pos (by omega), Take_eq k (by omega) _ (by rw [ByteArray.size_append]; omega), Option.bind_some, take_fr p r hz, if_pos rfl, if_pos rfl]
  dsimp only
  rw [if_pos rfl, if_pos rfl]
  simp
end Go.Proofs.Ytblhcbnejfmaaaa.Pure
