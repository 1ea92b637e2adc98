/- Sums that are the same, and only these, are the same still where a byte went out and one came in: for every input, without conditions. -/
import Derived.Test.YtdcjakcbghokjaaRolls
import Derived.Lib.Hide
namespace Go.Proofs.Ytdcjakcbghokjaa.Back
open Go.RowKit Go.Proofs.Ytdcjakcbghokjaa.PAdlerRolls Go.Proofs.Ytdcjakcbghokjaa.Rolls Go.Proofs.YtdcjakcbghokjaaW.PrintWords Go.Proofs.YtdcjakcbghokjaaW.PrintLast Go.Proofs.YtdcjakcbghokjaaW.PrintMore
set_option linter.unusedVariables false
theorem low_gives (a : Int) (h1 : 0 ≤ a) (h2 : a < 4294967296) : Gives 14 #[.int .u32 a] (.int .u32 (a % 65536 % 65521)) := by
  intro w
  go_enter Try.func14, Try.ntmps14
  go_wp2
  go_ret
  exact ⟨rfl, Below.refl _ _⟩
theorem high_gives (a : Int) (h1 : 0 ≤ a) (h2 : a < 4294967296) : Gives 15 #[.int .u32 a] (.int .u32 (a / 65536 % 65521)) := by
  intro w
  go_enter Try.func15, Try.ntmps15
  go_wp2
  go_ret
  exact ⟨rfl, Below.refl _ _⟩
theorem back (a b o i n : Int) (w : World) (x y la lb ha hb : Int)
   (g0 : Gives 10 #[] (.bool true))
   (g1 : Gives 13 #[.int .u32 a, .int .u8 o, .int .u8 i, .int .i64 n] (.int .u32 x))
   (g2 : Gives 13 #[.int .u32 b, .int .u8 o, .int .u8 i, .int .i64 n] (.int .u32 y))
   (g3 : Gives 14 #[.int .u32 a] (.int .u32 la)) (g4 : Gives 14 #[.int .u32 b] (.int .u32 lb))
   (g5 : Gives 15 #[.int .u32 a] (.int .u32 ha)) (g6 : Gives 15 #[.int .u32 b] (.int .u32 hb))
   (hq : (x == y) = ((la == lb) && (ha == hb))) :
    Calls Try.prog 6 #[.int .u32 a, .int .u32 b, .int .u8 o, .int .u8 i, .int .i64 n] w fun e w' => e = .returned (.bool true) ∧ Below w.heap.size w w' := by
  have H := Below.refl w.heap.size w
  have HQ := Lib.hid hq; clear hq
  go_enter Try.func6, Try.ntmps6
  go_wp2_with fail
  refine (g0 _).mono ?_; rintro e w30 ⟨rfl, hb⟩; replace H := H.trans (hb.mono H.size); clear hb
  go_wp2_with fail
  refine (g1 _).mono ?_; rintro e w30 ⟨rfl, hb⟩; replace H := H.trans (hb.mono H.size); clear hb
  go_wp2_with fail
  refine (g2 _).mono ?_; rintro e w30 ⟨rfl, hb⟩; replace H := H.trans (hb.mono H.size); clear hb
  cases hl : (la == lb) with
  | true =>
    rw [hl, Bool.true_and] at HQ
    go_wp2_with fail
    refine (g3 _).mono ?_; rintro e w30 ⟨rfl, hb⟩; replace H := H.trans (hb.mono H.size); clear hb
    go_wp2_with fail
    refine (g4 _).mono ?_; rintro e w30 ⟨rfl, hb⟩; replace H := H.trans (hb.mono H.size); clear hb
    go_wp2_with fail
    refine (g5 _).mono ?_; rintro e w30 ⟨rfl, hb⟩; replace H := H.trans (hb.mono H.size); clear hb
    go_wp2_with fail
    refine (g6 _).mono ?_; rintro e w30 ⟨rfl, hb⟩; replace H := H.trans (hb.mono H.size); clear hb
    go_wp2_with fail
    go_ret
    exact ⟨by rw [HQ.out]; simp, H⟩
  | false =>
    rw [hl, Bool.false_and] at HQ
    go_wp2_with fail
    refine (g3 _).mono ?_; rintro e w30 ⟨rfl, hb⟩; replace H := H.trans (hb.mono H.size); clear hb
    go_wp2_with fail
    refine (g4 _).mono ?_; rintro e w30 ⟨rfl, hb⟩; replace H := H.trans (hb.mono H.size); clear hb
    go_wp2_with fail
    go_ret
    exact ⟨by rw [HQ.out]; simp, H⟩
theorem same0 (la lb ha hb d t : Int) (h1 : 0 ≤ la) (h2 : la < 65521) (h3 : 0 ≤ lb) (h4 : lb < 65521) (h5 : 0 ≤ ha) (h6 : ha < 65521) (h7 : 0 ≤ hb) (h8 : hb < 65521) :
    (en ((la + d) % 65521, (ha + (la + d - t - 1)) % 65521) == en ((lb + d) % 65521, (hb + (lb + d - t - 1)) % 65521)) = ((la == lb) && (ha == hb)) := by
  rw [Bool.eq_iff_iff]
  simp only [beq_iff_eq, Bool.and_eq_true, en]
  constructor
  · intro h
    have e1 : (la + d) % 65521 = (lb + d) % 65521 := by omega
    have e2 : la = lb := by clear h; omega
    subst e2
    have e3 : (ha + (la + d - t - 1)) % 65521 = (hb + (la + d - t - 1)) % 65521 := by omega
    exact ⟨rfl, by clear h e1; omega⟩
  · rintro ⟨h1, h2⟩
    rw [h1, h2]
theorem same (a b o i n : Int) (t : Int) :
    (en ((a % 65536 % 65521 + (i - o)) % 65521, (a / 65536 % 65521 + (a % 65536 % 65521 + (i - o) - t - 1)) % 65521) == en ((b % 65536 % 65521 + (i - o)) % 65521, (b / 65536 % 65521 + (b % 65536 % 65521 + (i - o) - t - 1)) % 65521)) =
      ((a % 65536 % 65521 == b % 65536 % 65521) && (a / 65536 % 65521 == b / 65536 % 65521)) :=
  same0 _ _ _ _ _ _ (by omega) (by omega) (by omega) (by omega) (by omega) (by omega) (by omega) (by omega)
theorem walk (a b o i n : Int) (w : World) (w0 : (Lit.int .u32 a).wf = true) (w1 : (Lit.int .u32 b).wf = true) (w2 : (Lit.int .u8 o).wf = true) (w3 : (Lit.int .u8 i).wf = true) (w4 : (Lit.int .i64 n).wf = true) :
    Calls Try.prog 6 #[.int .u32 a, .int .u32 b, .int .u8 o, .int .u8 i, .int .i64 n] w fun e w' => e = .returned (.bool true) ∧ Below w.heap.size w w' := by
  have ha := u32_bd w0
  have hb := u32_bd w1
  have ho := u8_bd w2
  have hi := u8_bd w3
  have hn := int64_bd w4
  exact back a b o i n w _ _ _ _ _ _ (fun w => billetlaw02_awake.calls 10 true w (awake_yes 10 (by omega)))
    (fun w => adler_Roll.calls _ _ _ _ _ w (Roll_eq a o i n ha.1 ha.2 ho.1 ho.2 hi.1 hi.2 hn.1 hn.2)) (fun w => adler_Roll.calls _ _ _ _ _ w (Roll_eq b o i n hb.1 hb.2 ho.1 ho.2 hi.1 hi.2 hn.1 hn.2))
    (low_gives a ha.1 ha.2) (low_gives b hb.1 hb.2) (high_gives a ha.1 ha.2) (high_gives b hb.1 hb.2) (same a b o i n _)
end Go.Proofs.Ytdcjakcbghokjaa.Back
