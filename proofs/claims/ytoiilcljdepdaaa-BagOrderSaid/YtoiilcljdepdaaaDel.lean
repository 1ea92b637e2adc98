/- A bag in memory: one text is deleted. -/
import Derived.Test.YtoiilcljdepdaaaBg
import Derived.Test.YtoiilcljdepdaaaSh
import Derived.Lib.OwnBridge
import Derived.Deep.RegionWith
import Derived.Deep.DeepFit
namespace Go.Proofs.Ytoiilcljdepdaaa.Bg
set_option linter.unusedVariables false
set_option linter.unusedSimpArgs false
open Go.RowKit Go.Proofs.YtoiilcljdepdaaaW.PrintWords Go.Proofs.YtoiilcljdepdaaaW.PrintLast Go.Proofs.YtoiilcljdepdaaaW.PrintMore Go.Proofs.Ytoiilcljdepdaaa.PBagPlays
attribute [local go_sem] max2_int min2_int max_two min_two max_three min_three max_four min_four
theorem setCells_R {e base g n cap : Nat} {ok : Nat → Prop} : ∀ (ys mid pre : List ByteArray) (W : World), mid.length = ys.length → Kd.string.R e W base ok (.slice (some ⟨g, 0, none⟩) n cap) (pre ++ mid) →
    Kd.string.R e (W.setCells g pre.length (ys.map Value.string)) base ok (.slice (some ⟨g, 0, none⟩) n cap) (pre ++ ys) ∧ W.grownBy (W.setCells g pre.length (ys.map Value.string)) (some g)
  | [], [], pre, W, _, h => ⟨h, World.grownBy.refl _ _⟩
  | y :: ys, m :: mid, pre, W, hl, h => by
    have h1 := Kd.R_putg (enc := Value.string) h (pre.length : Int) y
    rw [Int.toNat_natCast] at h1
    have e1 : (pre ++ m :: mid).set pre.length y = (pre ++ [y]) ++ mid := by simp
    rw [e1] at h1
    have h2 := setCells_R ys mid (pre ++ [y]) _ (by simpa using hl) h1.1
    have e2 : (pre ++ [y]).length = pre.length + 1 := by simp
    rw [e2] at h2
    have e3 : pre ++ [y] ++ ys = pre ++ y :: ys := by simp
    rw [e3] at h2
    exact ⟨h2.1, h1.2.trans h2.2⟩
theorem del (A : Option Addr) (c base : Nat) (ok : Nat → Prop) (xs : List ByteArray) (i : Nat) (w : World) (h : Kd.string.R 9 w base ok (.slice A xs.length c) xs) (hi : i < xs.length) (hm : c ≤ 9223372036854775807) :
    Calls Try.prog 25 #[.slice A xs.length c, .int .i64 i, .int .i64 (i + 1 : Nat)] w fun e w' => e = .returned (.slice A (xs.length - 1) c) ∧ Kd.string.R 9 w' base ok (.slice A (xs.length - 1) c) (xs.eraseIdx i) ∧ w.grownBy w' (Value.slice A xs.length c).ownBlock := by
  obtain ⟨g, cap, he, _, _, _⟩ := Kd.R_form h (by omega)
  injection he with hA _ hc
  subst hA hc
  have hcap := (Kd.R_reads' h).2.1
  refine (Sh.Try.slices_Delete_string_cells g 0 xs.length c i (i + 1) (fun j => xs.getD j ByteArray.empty) w hcap hm (by omega) (by omega) (fun j hj => ?_) (fun j hj => ?_)).mono ?_
  · have := (Kd.R_cell (enc := Value.string) ByteArray.empty h (j : Int) (by omega) (by omega)).1
    simpa [rdOf] using this
  · have := (Kd.R_cell (enc := Value.string) ByteArray.empty h (j : Int) (by omega) (by omega)).2
    simpa using this
  · rintro e w' ⟨rfl, q, rfl⟩
    have e1 : Lib.strsOf (fun j => xs.getD j ByteArray.empty) xs.length = xs.map (·.data.toList) := by
      apply List.ext_getElem
      · simp [Lib.strsOf]
      · intro j h1 h2
        simp [Lib.strsOf] at h1 ⊢
        rw [List.getElem?_eq_getElem h1]; rfl
    have e2 : ((xs.map (fun b : ByteArray => b.data.toList)).take i ++ (xs.map (fun b : ByteArray => b.data.toList)).drop (i + 1) ++ List.replicate (i + 1 - i) []).map encStr = (xs.take i ++ xs.drop (i + 1) ++ [ByteArray.empty]).map Value.string := by
      have e3 : i + 1 - i = 1 := by omega
      rw [e3]
      rw [← Lib.map_encStr]
      congr 1
      simp
    rw [e1, e2]
    have hd := Kd.R_drewN h q
    obtain ⟨h1, h2⟩ := setCells_R (xs.take i ++ xs.drop (i + 1) ++ [ByteArray.empty]) xs [] (w.drewN q) (by simp; omega) hd
    have h3 := Kd.R_take (m := xs.length - 1) h1 (by simp; omega)
    have e4 : ([] ++ (xs.take i ++ xs.drop (i + 1) ++ [ByteArray.empty])).take (xs.length - 1) = xs.eraseIdx i := by
      rw [List.eraseIdx_eq_take_drop_succ]
      rw [List.nil_append, List.take_append_of_le_length (by simp; omega), List.take_of_length_le (by simp; omega)]
    rw [e4] at h3
    exact ⟨by simp, by simpa using h3, by rw [show (Value.slice (some (⟨g, 0, none⟩ : Addr)) xs.length c).ownBlock = some g from by simp [Value.ownBlock]]; exact (grown_of_below (pw_below_drewN (Below.refl _ _) q) _).trans h2⟩
end Go.Proofs.Ytoiilcljdepdaaa.Bg
