/- What stands behind a number or a text changes nothing for it: for every int and all texts, without conditions. -/
import Derived.Test.YtbgmgigjogoemaaVaw
import Derived.Test.YtbgmgigjogoemaaQx31
namespace Go.Proofs.Ytbgmgigjogoemaa.Pure
open Go.RowKit Go.Proofs.YtbgmgigjogoemaaW.PrintWords Go.Proofs.YtbgmgigjogoemaaW.PrintLast Go.Proofs.YtbgmgigjogoemaaW.PrintMore Go.Proofs.Ytbgmgigjogoemaa.Num Go.Proofs.Ytbgmgigjogoemaa.Vth Go.Proofs.Ytbgmgigjogoemaa.Giv Go.Proofs.Ytbgmgigjogoemaa.Q Go.Proofs.Ytbgmgigjogoemaa.Vrd Go.Proofs.Ytbgmgigjogoemaa.Vaw
theorem VarintMore : billetlaw01_VarintMore.Pure := by
  intro x s m hx hs hm
  have hx := int64_bd hx
  refine ⟨50, ?_⟩
  have z1 := num_size_bd x
  have z2 := num_size_bd s.size
  have hts : (text s).size = (num s.size).size + s.size := by unfold text; rw [ByteArray.size_append]
  have hall : (num x ++ text s ++ m).size = (num x).size + (text s).size + m.size := by rw [ByteArray.size_append, ByteArray.size_append]
  unfold billetlaw01_VarintMore.f
  rw [awake_yes 50 (by omega), Option.bind_some, Numf x hx.1 hx.2, Option.bind_some, Textf s (by omega), Option.bind_some, if_pos (by omega), if_pos (by rw [ByteArray.size_append]; omega),
    show varint_New.f (num x ++ text s ++ m) = some (num x ++ text s ++ m, 0, false) from rfl, Option.bind_some, if_pos rfl]
  dsimp only [billetlaw01_VarintMore.j0]
  have e1 := Num_at (num x ++ text s ++ m) ByteArray.empty (text s ++ m) x (by omega) hx.1 hx.2 (by rw [ByteArray.empty_append, ByteArray.append_assoc]) 49 (by omega)
  have e2 := Text_at (num x ++ text s ++ m) (num x) s m s.size (by omega) rfl (by omega) 49 (by omega)
  rw [ByteArray.empty_append] at e1
  rw [if_neg (by simp), show (0 : Int) = ((ByteArray.empty.size : Nat) : Int) from rfl, e1, Option.bind_some]
  dsimp only
  rw [e2, Option.bind_some]
  dsimp only
  have hpp : (num x ++ text s).size = (num x).size + (text s).size := ByteArray.size_append
  rw [if_pos rfl, if_pos rfl, left_eq _ _ false (by omega) (by omega), Option.bind_some]
  dsimp only
  rw [if_pos (by omega), show varint_Reader_Bad.f (num x ++ text s ++ m) (((num x ++ text s).size : Nat) : Int) false = some (false, num x ++ text s ++ m, (((num x ++ text s).size : Nat) : Int), false) from rfl, Option.bind_some]
  dsimp only
  rw [if_neg (by simp)]
  unfold varint_Reader_Ends.f
  rw [if_neg (by simp), left_eq _ _ false (by omega) (by omega)]
  simp only [Option.bind_some, Option.some.injEq, beq_iff_eq]
  rw [Bool.eq_iff_iff]
  simp only [beq_iff_eq]
  rw [toList_eq]
  constructor
  · intro h
    have h0 : m.size = 0 := by omega
    have : m.data.size = 0 := h0
    rw [Array.size_eq_zero_iff.1 this]
  · intro h
    have h0 : m.data.toList.length = 0 := by rw [h]; rfl
    rw [data_length] at h0
    omega
end Go.Proofs.Ytbgmgigjogoemaa.Pure
