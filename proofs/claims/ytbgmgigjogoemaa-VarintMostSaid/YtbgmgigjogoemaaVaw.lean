/- The examples of chapter 1 hold. -/
import Derived.Test.YtbgmgigjogoemaaVrd
import Derived.Test.YtbgmgigjogoemaaQx9
namespace Go.Proofs.Ytbgmgigjogoemaa.Vaw
open Go.RowKit Go.Proofs.YtbgmgigjogoemaaW.PrintWords Go.Proofs.YtbgmgigjogoemaaW.PrintLast Go.Proofs.YtbgmgigjogoemaaW.PrintMore Go.Proofs.Ytbgmgigjogoemaa.Num Go.Proofs.Ytbgmgigjogoemaa.Vth Go.Proofs.Ytbgmgigjogoemaa.Giv Go.Proofs.Ytbgmgigjogoemaa.Q Go.Proofs.Ytbgmgigjogoemaa.Vrd
theorem int64_bd {a : Int} (h : (Lit.int .i64 a).wf = true) : -9223372036854775808 ≤ a ∧ a ≤ 9223372036854775807 := by
  simp [Lit.wf, IntKind.min, IntKind.max, IntKind.bits, IntKind.signed] at h; omega
theorem awake_yes (k : Nat) (hk : 40 ≤ k) : billetlaw01_awake.f k = some true := by
  unfold billetlaw01_awake.f
  have e1 : varint_Reader_Num.f k ⟨#[128, 0]⟩ 0 false = some (0, ⟨#[128, 0]⟩, 0, true) := by
    have := Num_good ⟨#[128, 0]⟩ (by decide) 0 (by omega) k hk
    rw [show dec 0 0 (List.drop 0 (bytesOf ⟨#[128, 0]⟩)) = none by decide +kernel] at this
    exact this
  rw [show varint_New.f ⟨#[128, 0]⟩ = some (⟨#[128, 0]⟩, 0, false) from rfl, Option.bind_some]
  dsimp only
  rw [e1, Option.bind_some]
  dsimp only
  rw [Numf 0 (by omega) (by omega), Option.bind_some, if_pos (by rw [toList_eq]; decide +kernel), Numf (-1) (by omega) (by omega), Option.bind_some, if_pos (by rw [toList_eq]; decide +kernel),
    Numf 64 (by omega) (by omega), Option.bind_some, if_pos (by rw [toList_eq]; decide +kernel), Textf _ (by decide), Option.bind_some, if_pos (by rw [toList_eq]; decide +kernel), if_pos rfl]
  rfl
end Go.Proofs.Ytbgmgigjogoemaa.Vaw
