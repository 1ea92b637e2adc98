/- msg.Put and msg.Get in the print's own form. -/
import Derived.Test.YtdgaancbeakfdaaDoorGw
namespace Go.Proofs.YtdgaancbeakfdaaDoor.Pg
open Go.RowKit Go.Proofs.YtdgaancbeakfdaaDoorW.PrintWords Go.Proofs.YtdgaancbeakfdaaDoor.Num Go.Proofs.YtdgaancbeakfdaaDoor.Vrd Go.Proofs.YtdgaancbeakfdaaDoor.Giv Go.Proofs.YtdgaancbeakfdaaDoor.Q Go.Proofs.YtdgaancbeakfdaaDoor.Fth Go.Proofs.YtdgaancbeakfdaaDoor.Rt Go.Proofs.YtdgaancbeakfdaaDoor.Gp Go.Proofs.YtdgaancbeakfdaaDoor.Gw
/-- msg.Put's answer -/
def msg_Put.f (a0 a1 a2 a3 a4 a5 : Int) (l : List S42) : Option (ByteArray × Int) := Pp.msg_Put.f a0 a1 a2 a3 a4 a5 l
theorem msg_Put.calls (a0_0 : Int) (a0_1 : Int) (a0_2 : Int) (a0_3 : Int) (a0_4 : Int) (a0_5 : Int) (A0_6 : Option Addr) (c0_6 : Nat) (l0_6 : List (S42)) (r1 : ByteArray) (r2 : Int) (w : World) (hr0_6 : Kd.C k42 w A0_6 l0_6.length l0_6) (hc0_6 : l0_6.length ≤ c0_6) (h : msg_Put.f a0_0 a0_1 a0_2 a0_3 a0_4 a0_5 l0_6 = some (r1, r2)) :
    Calls Tryd.prog 9 #[.agg #[.int .i64 a0_0, .int .i64 a0_1, .int .i64 a0_2, .int .i64 a0_3, .int .i64 a0_4, .int .i64 a0_5, .slice A0_6 l0_6.length c0_6]] w fun e w' => e = .returned (.tuple #[.string r1, .int .i64 r2]) ∧ Below w.heap.size w w' := by
  have h' : (if rightS a0_0 a0_1 a0_2 a0_3 a0_4 a0_5 l0_6 = true then some (fr (Pp.payload a0_0 a0_1 a0_2 a0_3 a0_4 a0_5 l0_6), (0 : Int)) else some ((⟨#[]⟩ : ByteArray), (160 : Int))) = some (r1, r2) := h
  cases hR : rightS a0_0 a0_1 a0_2 a0_3 a0_4 a0_5 l0_6 with
  | true =>
    rw [hR, if_pos rfl] at h'
    obtain ⟨rfl, rfl⟩ : fr (Pp.payload a0_0 a0_1 a0_2 a0_3 a0_4 a0_5 l0_6) = r1 ∧ (0 : Int) = r2 := by injection h' with h'; injection h' with h1 h2; exact ⟨h1, h2⟩
    exact Pp.put_yes _ _ _ _ _ _ A0_6 c0_6 l0_6 w hr0_6 hc0_6 hR
  | false =>
    rw [hR, if_neg (by decide)] at h'
    obtain ⟨rfl, rfl⟩ : (⟨#[]⟩ : ByteArray) = r1 ∧ (160 : Int) = r2 := by injection h' with h'; injection h' with h1 h2; exact ⟨h1, h2⟩
    exact Pp.put_no _ _ _ _ _ _ A0_6 c0_6 l0_6 w hr0_6 hc0_6 hR
/-- msg.Get's answer -/
def msg_Get.f (s : ByteArray) : Option (Int × Int × Int × Int × Int × Int × (List (S42)) × Int) := if s.size ≤ 4611686018427387904 then some (getS s) else none
theorem get_any (s : ByteArray) (w : World) (hs : s.size ≤ 4611686018427387904) : Calls Tryd.prog 11 #[.string s] w (GetPost s w) := by
  by_cases h : (take s).2.2 = 0 ∧ (take s).2.1 = (s.size : Int)
  · exact take_yes s w hs h.1 h.2
  · exact take_no s w hs h
theorem msg_Get.calls (a0 : ByteArray) (r1 : Int) (r2 : Int) (r3 : Int) (r4 : Int) (r5 : Int) (r6 : Int) (r7 : List (S42)) (r8 : Int) (w : World) (h : msg_Get.f a0 = some (r1, r2, r3, r4, r5, r6, r7, r8)) :
    Calls Tryd.prog 11 #[.string a0] w fun e w' => ∃ v6_ : Value, e = .returned (.tuple #[.agg #[.int .i64 r1, .int .i64 r2, .int .i64 r3, .int .i64 r4, .int .i64 r5, .int .i64 r6, v6_], .int .i64 r8]) ∧ Kd.R k42 42 w' w.heap.size (fun _ => True) v6_ r7 ∧ Below w.heap.size w w' := by
  unfold msg_Get.f at h
  split at h
  · rename_i hs
    have e : getS a0 = (r1, r2, r3, r4, r5, r6, r7, r8) := by injection h
    have := get_any a0 w hs
    unfold GetPost at this
    rw [e] at this
    exact this
  · cases h
end Go.Proofs.YtdgaancbeakfdaaDoor.Pg
