/- intent.GetState at what PutState laid. -/
/- thin -/
import Derived.Test.YtldlkbjbfgieeaaGreatDoorGw
import Derived.Test.YtldlkbjbfgieeaaGreatDoorPs
import Derived.Test.YtldlkbjbfgieeaaGreatDoorFt
namespace Go.Proofs.YtldlkbjbfgieeaaGreatDoor.Gs
set_option linter.unusedVariables false
set_option linter.unusedSimpArgs false
open Go.RowKit Go.Proofs.YtldlkbjbfgieeaaGreatDoorW.PrintWords Go.Proofs.YtldlkbjbfgieeaaGreatDoorW.PrintLast Mo Q Go.Proofs.YtldlkbjbfgieeaaGreatDoor.Num Ch Ap Pk Gw
open Go.Proofs.YtldlkbjbfgieeaaGreatDoor.Ft (puts_)
open Go.Proofs.YtldlkbjbfgieeaaGreatDoor.Ri (rightS rightW rightN stV Small)
theorem rbad {w0 w : World} {g : Nat} {p : ByteArray} {a : Nat} (hI : Rd w0 w g p a) (hB : Below w0.heap.size w0 w) :
 Calls Tryz.prog 66 #[.pointer (some ⟨g, 0, none⟩)] w fun e w' => e = .returned (.bool false) ∧ Rd w0 w' g p a ∧ Below w0.heap.size w0 w' ∧ KeepBut w w' g none :=
 varint_Reader_Bad.calls g p a false false p a false w0 w hI hB rfl
def Sg (w wL wr : World) (b2 b5 g : Nat) (p : ByteArray) (a : Nat) (e : Int) (V U : Value) : Prop :=
 wr.heap[b2]? = some (.cells #[.int .i64 0, .slice none 0 0, .slice none 0 0] 27 (0, 0)) ∧ wr.heap[b5]? = some (.cells #[.int .i64 e, V, U] 27 (0, 0)) ∧ Rd w wr g p a ∧ Below w.heap.size w wr ∧ (wL.heap.size ≤ wr.heap.size ∧ ∀ k, k < wL.heap.size → k ≠ b5 → k ≠ g → wr.heap[k]? = wL.heap[k]?) ∧ w.heap.size ≤ wL.heap.size ∧ b2 < wL.heap.size ∧ b5 < wL.heap.size ∧ g < wL.heap.size ∧ b2 ≠ b5 ∧ b2 ≠ g ∧ b5 ≠ g ∧ w.heap.size ≤ b5 ∧ w.heap.size ≤ b2
section
variable {w wL wr w2 : World} {b2 b5 g : Nat} {p : ByteArray} {a a2 : Nat} {e : Int} {V U V2 U2 : Value} (h : Sg w wL wr b2 b5 g p a e V U)
include h
theorem Sg.below (hb : Below wr.heap.size wr w2) : Sg w wL w2 b2 b5 g p a e V U :=
 ⟨blk_below h.1 hb, blk_below h.2.1 hb, h.2.2.1.below hb, below_then h.2.2.2.1 h.2.2.2.1.size hb, ⟨Nat.le_trans h.2.2.2.2.1.1 hb.size, fun k hk hk5 hkg => (hb.block k (Nat.lt_of_lt_of_le hk h.2.2.2.2.1.1)).trans (h.2.2.2.2.1.2 k hk hk5 hkg)⟩, h.2.2.2.2.2⟩
theorem Sg.read (hI : Rd w w2 g p a2) (hB : Below w.heap.size w w2) (hk : KeepBut wr w2 g none) : Sg w wL w2 b2 b5 g p a2 e V U := by
 obtain ⟨h2, h5, _, _, hK, hl, l2, l5, lg, n25, n2g, n5g, q5, q2⟩ := h
 exact ⟨hk.blk h2 n2g (by simp), hk.blk h5 n5g (by simp), hI, hB, ⟨Nat.le_trans hK.1 hk.1, fun k hk' hk5 hkg => (hk.2 k (Nat.lt_of_lt_of_le hk' hK.1) hkg (by simp)).trans (hK.2 k hk' hk5 hkg)⟩, hl, l2, l5, lg, n25, n2g, n5g, q5, q2⟩
theorem Sg.app (hb : Below wL.heap.size wr w2) : Sg w wL w2 b2 b5 g p a e V U := by
 obtain ⟨h2, h5, hI, hB, hK, hl, l2, l5, lg, n25, n2g, n5g, q5, q2⟩ := h
 have hz := hb.size
 exact ⟨(hb.block _ l2).trans h2, (hb.block _ l5).trans h5, ⟨(hb.block _ lg).trans hI.1, hI.2⟩, hB.trans (hb.mono hl), ⟨Nat.le_trans hK.1 hz, fun k hk hk5 hkg => (hb.block k hk).trans (hK.2 k hk hk5 hkg)⟩, hl, l2, l5, lg, n25, n2g, n5g, q5, q2⟩
theorem Sg.put (k : Nat) (v : Value) {cs : Array Value} (hc : (#[.int .i64 e, V, U] : Array Value).setIfInBounds k v = cs) (hcs : cs = #[.int .i64 e, V2, U2]) : Sg w wL (wr.setCell ⟨b5, k, none⟩ v) b2 b5 g p a e V2 U2 := by
 obtain ⟨h2, h5, hI, hB, hK, hl, l2, l5, lg, n25, n2g, n5g, q5, q2⟩ := h
 have h5' := blk_put h5 k v hc
 rw [hcs] at h5'
 exact ⟨blk_far (p := ⟨b5, k, none⟩) h2 n25 v, h5', hI.far (p := ⟨b5, k, none⟩) n5g.symm v, hB.setCell (p := ⟨b5, k, none⟩) q5 v, ⟨by simpa [World.setCell] using hK.1, fun j hj hj5 hjg => (Below.heap_setCell wr ⟨b5, k, none⟩ v j hj5).trans (hK.2 j hj hj5 hjg)⟩, hl, l2, l5, lg, n25, n2g, n5g, q5, q2⟩
omit h
theorem R_read {α : Type} {d : Kd α} {E base : Nat} {xs : List α} (hR : d.R E wr base (fun k => k ≠ b5 ∧ k ≠ g) V xs) (hk : KeepBut wr w2 g none) : d.R E w2 base (fun k => k ≠ b5 ∧ k ≠ g) V xs := Kd.R_step hR (fun k ho hl => hk.2 k hl ho.2 (by simp))
theorem R_put {α : Type} {d : Kd α} {E base : Nat} {xs : List α} (hR : d.R E wr base (fun k => k ≠ b5 ∧ k ≠ g) V xs) (k : Nat) (v : Value) : d.R E (wr.setCell ⟨b5, k, none⟩ v) base (fun k => k ≠ b5 ∧ k ≠ g) V xs := Kd.R_step hR (fun j ho hl => Below.heap_setCell wr ⟨b5, k, none⟩ v j ho.1)
end
theorem take_drop {α : Type} {f : α → ByteArray} {z : α} {l : List α} {i : Nat} (h : i < l.length) : catB f (l.drop i) = f (l.getD i z) ++ catB f (l.drop (i + 1)) := by
 rw [List.drop_eq_getElem_cons h, List.getD_eq_getElem?_getD, List.getElem?_eq_getElem h]; rfl
theorem cat_split {α : Type} {f : α → ByteArray} (l : List α) : ∀ i, catB f l = catB f (l.take i) ++ catB f (l.drop i) := by
 intro i
 have : ∀ x y : List α, catB f (x ++ y) = catB f x ++ catB f y := by
  intro x y
  induction x with
  | nil => exact (ByteArray.empty_append).symm
  | cons a x ih => show f a ++ catB f (x ++ y) = f a ++ catB f x ++ catB f y; rw [ih, ByteArray.append_assoc]
 rw [← this, List.take_append_drop]
theorem take_snoc {α : Type} {z : α} {l : List α} {i : Nat} (h : i < l.length) : l.take i ++ [l.getD i z] = l.take (i + 1) := by
 rw [List.take_add_one, List.getElem?_eq_getElem h, List.getD_eq_getElem?_getD, List.getElem?_eq_getElem h]; rfl
set_option maxHeartbeats 8000000 in
set_option maxRecDepth 100000 in
theorem getState_any (e : Int) (ws : List W) (ns : List N) (w : World) (hr : rightS e ws ns = true) (hw : ∀ x ∈ ws, okW x) (hn : ∀ x ∈ ns, okN x) (p : ByteArray) (hp : p = stateB e ws ns) :
 Calls Tryz.prog 25 #[.string p] w fun e' w' => ∃ A c B d, e' = .returned (.tuple #[stV e A ws.length c B ns.length d, .int .i64 0]) ∧ ws.length ≤ c ∧ ns.length ≤ d ∧ Kd.C k32 w' A ws.length ws ∧ Kd.C k34 w' B ns.length ns ∧ Below w.heap.size w w' := by
 have hri := Su.rightS_iff.1 hr
 have hs : p.size ≤ 4611686018427387904 := by
  have u0 := Pw.nsz e
  have u1 := Pw.nsz ws.length
  have u2 := Pw.nsz ns.length
  have u3 := Ps.cat_size (f := workB) (fun x hx => Pw.wsz x (hw x hx))
  have u4 := Ps.cat_size (f := nodeB) (fun x hx => Pw.nosz x (hn x hx))
  have u5 := hri.2.1
  have u6 := hri.2.2.1
  rw [hp]
  unfold stateB
  simp only [ByteArray.size_append]
  omega
 have hsm : Small ws ns := ⟨fun x hx => by have := (hw x hx).2.2.2.2.2; omega, fun x hx => by have := (hn x hx).2.2.2; omega⟩
 replace hp := Lib.hid hp
 replace hw := Aside0.mk hw
 replace hn := Aside0.mk hn
 replace hsm := Aside0.mk hsm
 replace hs := Lib.hid hs
 have hB := below_alloc (Below.refl w.heap.size w) stZ
 have h2 := blk_new w stZ
 obtain ⟨b2, hb2_⟩ : ∃ b, b = w.heap.size := ⟨_, rfl⟩
 rw [← hb2_] at h2
 have q2 : w.heap.size ≤ b2 := by omega
 replace hb2_ := Lib.hid hb2_
 replace q2 := Lib.hid q2
 go_enter Tryz.func25, Tryz.ntmps25
 go_wp2_with fail
 rw [← hb2_.out]
 revert hB; revert h2
 generalize w.alloc stZ = v0
 intro h2 hB
 refine (varint_New.calls p p 0 false w v0 hB rfl).mono ?_
 rintro e' v1 ⟨g, rfl, hI, hB1, hb, _⟩
 replace h2 := blk_below h2 hb
 clear hB hb
 have n2g := (hI.ne_blk h2 (by decide)).symm
 go_wp2_with fail
 refine (rnum p ByteArray.empty (num ws.length ++ (catB workB ws ++ (num ns.length ++ catB nodeB ns))) e (by rw [hp.out]; simp only [stateB, ByteArray.empty_append, ByteArray.append_empty, ByteArray.append_assoc]) ⟨by have := hri.1; omega, by have := hri.1; omega⟩ hs.out hI hB1).mono ?_
 rintro e' v2 ⟨rfl, hI, hB, hk⟩
 replace h2 := hk.blk h2 n2g (by simp)
 clear hk hB1
 rw [ByteArray.empty_append] at hI
 have h5 := blk_new v2 (.cells #[.int .i64 e, .slice none 0 0, .slice none 0 0] 27)
 have hq := below_alloc (Below.refl v2.heap.size v2) (.cells #[.int .i64 e, .slice none 0 0, .slice none 0 0] 27)
 obtain ⟨b5, hb5_⟩ : ∃ b, b = v2.heap.size := ⟨_, rfl⟩
 have q5 : w.heap.size ≤ b5 := by rw [hb5_]; exact hB.size
 have n25 : b2 ≠ b5 := by rw [hb5_]; exact Nat.ne_of_lt (blk_lt h2)
 rw [← hb5_] at h5
 replace hb5_ := Lib.hid hb5_
 replace h2 := blk_below h2 hq
 replace hI := hI.below hq
 replace hB := below_then hB hB.size hq
 clear hq
 have n5g := (hI.ne_blk h5 (by decide)).symm
 go_wp2_with fail
 rw [← hb5_.out]
 generalize v2.alloc (.cells #[.int .i64 e, .slice none 0 0, .slice none 0 0] 27) = v3 at *
 refine (rnum p (num e) (catB workB ws ++ (num ns.length ++ catB nodeB ns)) ws.length (by rw [hp.out]; simp only [stateB, ByteArray.empty_append, ByteArray.append_empty, ByteArray.append_assoc]) (len_in ws (by have := hri.2.1; omega)) hs.out hI hB).mono ?_
 rintro e' v4 ⟨rfl, hI, hB, hk⟩
 replace h2 := hk.blk h2 n2g (by simp)
 replace h5 := hk.blk h5 n5g (by simp)
 clear hk
 have hF := Aside0.mk (show Sg w v4 v4 b2 b5 g p (num e ++ num ws.length).size e (.slice none 0 0) (.slice none 0 0) from ⟨h2, h5, hI, hB, ⟨Nat.le_refl _, fun _ _ _ _ => rfl⟩, hB.size, blk_lt h2, blk_lt h5, hI.lt, n25, n2g, n5g, q5, q2.out⟩)
 clear h2 h5 hI hB n25 n2g n5g q5 q2
 go_wp2_with fail
 go_loopg [7] ws.length (fun kx v_ wr => ∃ (i : Nat) (V : Value), v_ = .int .i64 (i : Int) ∧ i + kx = ws.length ∧ Aside0 (Sg w v4 wr b2 b5 g p ((num e ++ num ws.length) ++ catB workB (ws.take i)).size e V (.slice none 0 0)) ∧ Aside0 (k32.R 32 wr v4.heap.size (fun k => k ≠ b5 ∧ k ≠ g) V (ws.take i)))
 case atStart => exact ⟨0, .slice none 0 0, rfl, by omega, by rw [show (num e ++ num ws.length) ++ catB workB (ws.take 0) = (num e ++ num ws.length) from ByteArray.append_empty]; exact hF, Aside0.mk (Kd.R_nil _ _ _ _ _)⟩
 case round =>
  clear hF
  obtain ⟨i, V, rfl, hik, hF, hR⟩ := hrel
  by_cases hi : i < ws.length
  ·obtain ⟨m, rfl⟩ : ∃ m, gk = m + 1 := ⟨gk - 1, by omega⟩
   have d1 : decide ((i : Int) < (ws.length : Int)) = true := decide_eq_true (by omega)
   have d2 : decide ((i : Int) ≤ 8) = true := decide_eq_true (by have := hri.2.1; omega)
   have hl8 := Lib.hid hri.2.1
   have hmem : ws.getD i z32 ∈ ws := by rw [List.getD_eq_getElem?_getD, List.getElem?_eq_getElem hi]; exact List.getElem_mem _
   have hok := hw.out _ hmem
   have hc1 := cat_split (f := workB) ws i
   rw [take_drop (z := z32) hi] at hc1
   have hc2 := Ps.take_cat (f := workB) (z := z32) hi
   have hts := take_snoc (z := z32) hi
   obtain ⟨x, hx⟩ : ∃ x, x = ws.getD i z32 := ⟨_, rfl⟩
   rw [← hx] at hok hc1 hc2 hts
   clear hx hmem
   replace hok := Aside0.mk hok
   replace hc1 := Lib.hid hc1
   replace hc2 := Lib.hid hc2
   replace hts := Lib.hid hts
   go_wp2_with fail
   refine (rbad hF.out.2.2.1 hF.out.2.2.2.1).mono ?_
   rintro e' w1 ⟨rfl, hI1, hB1, hk1⟩
   replace hF := Aside0.mk (hF.out.read hI1 hB1 hk1)
   replace hR := Aside0.mk (R_read hR.out hk1)
   clear hI1 hB1 hk1
   go_wp2_with fail
   refine start_ (n := 8) (S := fun w' => w'.cell? ⟨b5, 0, none⟩ = some (.int .i64 e) ∧ w'.cell? ⟨b5, 1, none⟩ = some V) (ds := [7]) (bt 8 0) (by kernel_rfl) rfl (by kernel_rfl) ⟨(blk_cell (w := w1) hF.out.2.1 0).trans rfl, (blk_cell (w := w1) hF.out.2.1 1).trans rfl⟩ (fun hHeld => ?_)
   replace hF := Aside0.mk (hF.out.below (below_drew (Below.refl _ _)))
   replace hR := Aside0.mk (Kd.R_below hR.out (below_drew (Below.refl _ _)))
   generalize w1.drew = wd at hHeld hF hR ⊢
   refine py 0 34 (bt 8 1) rfl rfl (h := ?_)
   refine ty 1 35 (bt 8 3) rfl rfl hHeld (h := ?_)
   refine py 2 36 (bt 8 7) rfl rfl (h := ?_)
   refine oe 3 37 (bt 8 15) rfl rfl (fun K hK => ?_)
   refine goes_ Tryz.func55 (by kernel_rfl) rfl #[.pointer (some ⟨g, 0, none⟩)] (by rfl) rfl rfl (by (try simp only [List.map_toArray, List.map_cons, List.map_nil]); rfl) ?_
   refine (getWork_at p ((num e ++ num ws.length) ++ catB workB (ws.take i)) (catB workB (ws.drop (i + 1)) ++ (num ns.length ++ catB nodeB ns)) x (by rw [hp.out]; unfold stateB; rw [hc1.out]; simp only [ByteArray.append_assoc]) hok.out hs.out hF.out.2.2.1 hF.out.2.2.2.1).mono ?_
   rintro e' w2 ⟨rfl, hI1, hB1, hk1⟩
   replace hF := Aside0.mk (hF.out.read hI1 hB1 hk1)
   replace hR := Aside0.mk (R_read hR.out hk1)
   clear hI1 hB1 hk1
   rw [ByteArray.append_assoc, ← hc2.out] at hF
   refine ⟨_, rfl, ?_⟩
   refine hK.out _ _ ⟨(blk_cell hF.out.2.1 0).trans rfl, (blk_cell hF.out.2.1 1).trans rfl⟩ (fun hHeld => ?_)
   clear hK K
   refine ny (h := ?_)
   refine oe 4 38 (bt 8 31) rfl rfl (fun K hK => ?_)
   refine puts_ (some 38) (by rfl) rfl (v := .slice (some ⟨w2.heap.size, 0, none⟩) 1 1) (w1 := w2.alloc (.cells #[.string x.f0, .int .i64 x.f1, .int .i64 x.f2, .int .i64 x.f3, .int .i64 x.f4, .string x.f5] 32)) (by first | (go_simp; done) | (go_simp; rfl)) ?_
   refine hK.out _ _ ⟨(blk_cell (blk_alloc hF.out.2.1 _) 0).trans rfl, (blk_cell (blk_alloc hF.out.2.1 _) 1).trans rfl⟩ (fun hHeld => ?_)
   clear hK K
   refine ny (h := ?_)
   refine oe 5 39 (bt 8 63) rfl rfl (fun K hK => ?_)
   refine Kd.R_append_step k32 (w0 := w2) v4.heap.size (by rfl) (.tmp 35) (.tmp 38) 24 32 (.agg #[.string ⟨#[]⟩, .int .i64 0, .int .i64 0, .int .i64 0, .int .i64 0, .string ⟨#[]⟩]) 64 rfl Tryz.underlying24 info32 rfl (by decide) (by omega) V (ws.take i) x [.string x.f0, .int .i64 x.f1, .int .i64 x.f2, .int .i64 x.f3, .int .i64 x.f4, .string x.f5] (fun k => k ≠ b5 ∧ k ≠ g) (fun _ => False) rfl (by first | rfl | exact congrArg (fun b : Nat => Value.slice (some ⟨b, 0, none⟩) 1 1) (show w2.heap.size + 1 = (World.alloc w2 _).heap.size by simp)) ?aP (fun _ hk => hk.elim) ?aF ?aO ?aB ?aS ?aL ?_; (case aP => exact k32_mkM _ _ _ _); (case aB => exact Below.refl _ _); (case aF => exact (fun k hk => ⟨by have := blk_lt hF.out.2.1; omega, by have := hF.out.2.2.1.lt; omega⟩)); (case aO => exact hR.out); (case aS => exact hF.out.2.2.2.2.1.1); (case aL => rw [List.length_take]; have := hl8.out; omega); intro V1 w5 ho hb hg hat; obtain ⟨A5, c5_, hV⟩ := Kd.R_slice ho; generalize (ws.take i ++ [x]).length = n5 at hV; subst hV
   replace hF := Aside0.mk (hF.out.app hb)
   replace hR := Aside0.mk ho
   clear ho hb hg hat
   rw [hts.out] at hR
   refine hK.out _ _ ⟨(blk_cell hF.out.2.1 0).trans rfl, (blk_cell hF.out.2.1 1).trans rfl⟩ (fun hHeld => ?_)
   clear hK K
   refine ny (h := ?_)
   refine py 6 40 (bt 8 127) rfl rfl (h := ?_)
   refine last_ (i := 7) (N := none) (bt 8 255) rfl rfl (by kernel_rfl) (by decide) (fun K hK => ?_)
   have y6 := blk_frozen hF.out.2.1 1
   have z6 := (blk_cell hF.out.2.1 1).trans rfl
   refine sk ?_
   refine hK.out _ _ ?_
   clear hK K
   refine done_ (by kernel_rfl) ?_
   clear y6 z6 hHeld
   replace hF := Aside0.mk (hF.out.put (V2 := .slice A5 n5 c5_) (U2 := .slice none 0 0) 1 (.slice A5 n5 c5_) rfl rfl)
   replace hR := Aside0.mk (R_put hR.out 1 (.slice A5 n5 c5_))
   go_wp2_with fail
   go_roundg m
   case measure => omega
   case rel => exact ⟨i + 1, _, by first | rfl | exact congrArg (Value.int .i64) (by (try simp only [IntKind.wrap_i64]); (try unfold wrap64); omega), by omega, hF, hR⟩
  ·obtain rfl : i = ws.length := by omega
   have d1 : decide ((ws.length : Int) < (ws.length : Int)) = false := decide_eq_false (by omega)
   rw [List.take_length] at hF hR
   obtain ⟨A6, c6, rfl⟩ := Kd.R_slice hR.out
   go_wp2_with fail
   clear d1
   refine (rnum p (num e ++ num ws.length ++ catB workB ws) (catB nodeB ns) ns.length (by rw [hp.out]; simp only [stateB, ByteArray.empty_append, ByteArray.append_empty, ByteArray.append_assoc]) (len_in ns (by have := hri.2.2.1; omega)) hs.out hF.out.2.2.1 hF.out.2.2.2.1).mono ?_
   rintro e' v7 ⟨rfl, hI1, hB1, hk1⟩
   replace hF := Aside0.mk (hF.out.read hI1 hB1 hk1)
   replace hR := Aside0.mk (R_read hR.out hk1)
   clear hI1 hB1 hk1
   have hF0 := Aside0.mk hF.out
   replace hF := Aside0.mk (show Sg w v7 v7 b2 b5 g p (num e ++ num ws.length ++ catB workB ws ++ num ns.length).size e (.slice A6 ws.length c6) (.slice none 0 0) from ⟨hF0.out.1, hF0.out.2.1, hF0.out.2.2.1, hF0.out.2.2.2.1, ⟨Nat.le_refl _, fun _ _ _ _ => rfl⟩, hF0.out.2.2.2.1.size, blk_lt hF0.out.1, blk_lt hF0.out.2.1, hF0.out.2.2.1.lt, hF0.out.2.2.2.2.2.2.2.2.2⟩)
   clear hF0
   replace hR := Aside0.mk hR
   have hR7 := hR
   clear hR
   have d3 : decide ((0 : Int) ≤ (ws.length : Int)) = true := decide_eq_true (by omega)
   have d4 : decide ((0 : Int) ≤ (ns.length : Int)) = true := decide_eq_true (by omega)
   go_wp2_with fail
   clear d3 d4
   go_loopg [9, 10] ns.length (fun kx vf_ v_ wr => ∃ (i : Nat) (V : Value), vf_ = .bool true ∧ v_ = .int .i64 (i : Int) ∧ i + kx = ns.length ∧ Aside0 (Sg w v7 wr b2 b5 g p ((num e ++ num ws.length ++ catB workB ws ++ num ns.length) ++ catB nodeB (ns.take i)).size e (.slice A6 ws.length c6) V) ∧ Aside0 (k34.R 34 wr v7.heap.size (fun k => k ≠ b5 ∧ k ≠ g) V (ns.take i)))
   case atStart => exact ⟨0, .slice none 0 0, rfl, rfl, by omega, by rw [show (num e ++ num ws.length ++ catB workB ws ++ num ns.length) ++ catB nodeB (ns.take 0) = (num e ++ num ws.length ++ catB workB ws ++ num ns.length) from ByteArray.append_empty]; exact hF, Aside0.mk (Kd.R_nil _ _ _ _ _)⟩
   case round =>
    clear hF
    obtain ⟨i, V, rfl, rfl, hik, hF, hR⟩ := hrel
    by_cases hi : i < ns.length
    ·obtain ⟨m, rfl⟩ : ∃ m, gk = m + 1 := ⟨gk - 1, by omega⟩
     have d1 : decide ((i : Int) < (ns.length : Int)) = true := decide_eq_true (by omega)
     have d2 : decide ((i : Int) ≤ 8) = true := decide_eq_true (by have := hri.2.2.1; omega)
     have hl8 := Lib.hid hri.2.2.1
     have hmem : ns.getD i z34 ∈ ns := by rw [List.getD_eq_getElem?_getD, List.getElem?_eq_getElem hi]; exact List.getElem_mem _
     have hok := hn.out _ hmem
     have hc1 := cat_split (f := nodeB) ns i
     rw [take_drop (z := z34) hi] at hc1
     have hc2 := Ps.take_cat (f := nodeB) (z := z34) hi
     have hts := take_snoc (z := z34) hi
     obtain ⟨x, hx⟩ : ∃ x, x = ns.getD i z34 := ⟨_, rfl⟩
     rw [← hx] at hok hc1 hc2 hts
     clear hx hmem
     replace hok := Aside0.mk hok
     replace hc1 := Lib.hid hc1
     replace hc2 := Lib.hid hc2
     replace hts := Lib.hid hts
     go_wp2_with fail
     refine (rbad hF.out.2.2.1 hF.out.2.2.2.1).mono ?_
     rintro e' w1 ⟨rfl, hI1, hB1, hk1⟩
     replace hF := Aside0.mk (hF.out.read hI1 hB1 hk1)
     replace hR := Aside0.mk (R_read hR.out hk1)
     clear hI1 hB1 hk1
     go_wp2_with fail
     refine (getNode_at p ((num e ++ num ws.length ++ catB workB ws ++ num ns.length) ++ catB nodeB (ns.take i)) (catB nodeB (ns.drop (i + 1))) x (by rw [hp.out]; unfold stateB; rw [hc1.out]; simp only [ByteArray.append_assoc]) hok.out hs.out hF.out.2.2.1 hF.out.2.2.2.1).mono ?_
     rintro e' w2 ⟨rfl, hI1, hB1, hk1⟩
     replace hF := Aside0.mk (hF.out.read hI1 hB1 hk1)
     replace hR := Aside0.mk (R_read hR.out hk1)
     clear hI1 hB1 hk1
     rw [ByteArray.append_assoc, ← hc2.out] at hF
     have hX := blk_new w2 (.cells #[.string x.f0, .int .i64 x.f1, .int .i64 x.f2, .string x.f3, .bool x.f4] 34)
     have hq := below_alloc (Below.refl w2.heap.size w2) (.cells #[.string x.f0, .int .i64 x.f1, .int .i64 x.f2, .string x.f3, .bool x.f4] 34)
     have x0 := (blk_cell hX 0).trans rfl
     have x1 := (blk_cell hX 1).trans rfl
     have x2 := (blk_cell hX 2).trans rfl
     have x3 := (blk_cell hX 3).trans rfl
     have x4 := (blk_cell hX 4).trans rfl
     have s5 := (blk_cell (blk_below hF.out.2.1 hq) 2).trans rfl
     have hF2 := Aside0.mk (hF.out.below hq)
     have hR2 := Aside0.mk (Kd.R_below hR.out hq)
     go_wp2_with (first | ((with_reducible refine gate_builtin (b := .append) (xs := #[.tmp 69, .tmp 71]) rfl ?_); at_builtin; refine Kd.R_append k34 (w0 := (w2.alloc (.cells #[.string x.f0, .int .i64 x.f1, .int .i64 x.f2, .string x.f3, .bool x.f4] 34))) v7.heap.size rfl (.tmp 69) (.tmp 71) 25 34 (.agg #[.string ⟨#[]⟩, .int .i64 0, .int .i64 0, .string ⟨#[]⟩, .bool false]) 56 rfl Tryz.underlying25 info34 rfl (by decide) (by omega) V (ns.take i) x [.string x.f0, .int .i64 x.f1, .int .i64 x.f2, .string x.f3, .bool x.f4] (fun k => k ≠ b5 ∧ k ≠ g) (fun _ => False) rfl (by first | rfl | exact congrArg (fun b : Nat => Value.slice (some ⟨b, 0, none⟩) 1 1) (show w2.heap.size + 1 = (World.alloc w2 _).heap.size by simp)) ?aP (fun _ hk => hk.elim) ?aF ?aO ?aB ?aS ?aL ?_; (case aP => exact k34_mkM _ _ _ _); (case aB => exact Below.refl _ _); (case aF => exact (fun k hk => ⟨by have := blk_lt hF2.out.2.1; omega, by have := hF2.out.2.2.1.lt; omega⟩)); (case aO => exact hR2.out); (case aS => exact hF2.out.2.2.2.2.1.1); (case aL => rw [List.length_take]; have := hl8.out; omega); intro V1 w5 ho hb hg hat; obtain ⟨A5, c5_, hV⟩ := Kd.R_slice ho; generalize (ns.take i ++ [x]).length = n5 at hV; subst hV; replace hF := Aside0.mk (hF2.out.app hb); replace hR := Aside0.mk ho; clear ho hg hat hF2 hR2 s5; rw [hts.out] at hR; have y6 := blk_frozen hF.out.2.1 2; have z6 := (blk_cell hF.out.2.1 2).trans rfl))
     replace hF := Aside0.mk (hF.out.put (V2 := .slice A6 ws.length c6) (U2 := .slice A5 n5 c5_) 2 (.slice A5 n5 c5_) rfl rfl)
     replace hR := Aside0.mk (R_put hR.out 2 (.slice A5 n5 c5_))
     go_roundg m
     case measure => omega
     case rel => exact ⟨i + 1, _, by first | rfl | simp, by first | rfl | exact congrArg (Value.int .i64) (by (try simp only [IntKind.wrap_i64]); (try unfold wrap64); omega), by omega, hF, hR⟩
    ·obtain rfl : i = ns.length := by omega
     have d1 : decide ((ns.length : Int) < (ns.length : Int)) = false := decide_eq_false (by omega)
     rw [List.take_length] at hF hR
     obtain ⟨B6, d6, rfl⟩ := Kd.R_slice hR.out
     have hR8 := Aside0.mk (Kd.R_step (w1 := wr) hR7.out.out (fun k ho hl => hF.out.2.2.2.2.1.2 k hl ho.1 ho.2))
     clear hR7
     rw [show (num e ++ num ws.length ++ catB workB ws ++ num ns.length) ++ catB nodeB ns = p from hp.out.symm] at hF
     go_wp2_with fail
     clear d1
     refine (rends p hs.out hF.out.2.2.1 hF.out.2.2.2.1).mono ?_
     rintro e' v8 ⟨rfl, hI1, hB1, hk1⟩
     replace hF := Aside0.mk (hF.out.read hI1 hB1 hk1)
     replace hR := Aside0.mk (R_read hR.out hk1)
     replace hR8 := Aside0.mk (R_read hR8.out hk1)
     clear hI1 hB1 hk1
     obtain ⟨_, hc6, hC6⟩ := Kd.R_reads' hR8.out
     obtain ⟨_, hd6, hD6⟩ := Kd.R_reads' hR.out
     replace hc6 := Lib.hid hc6
     replace hd6 := Lib.hid hd6
     replace hC6 := Aside0.mk hC6
     replace hD6 := Aside0.mk hD6
     have s0 := (blk_cell hF.out.2.1 0).trans rfl
     have s1 := (blk_cell hF.out.2.1 1).trans rfl
     have s2 := (blk_cell hF.out.2.1 2).trans rfl
     go_wp2_with fail
     clear s0 s1 s2
     refine (Ri.right_any e A6 B6 c6 d6 ws ns v8 hC6.out hc6.out hD6.out hd6.out hsm.out).mono ?_
     rintro e' v9 ⟨rfl, hb⟩
     rw [hr]
     replace hF := Aside0.mk (hF.out.below hb)
     replace hR8 := Aside0.mk (Kd.R_below hR8.out hb)
     replace hR := Aside0.mk (Kd.R_below hR.out hb)
     clear hb hC6 hD6
     have s0 := (blk_cell hF.out.2.1 0).trans rfl
     have y0 := blk_frozen hF.out.1 0
     have z0 := (blk_cell hF.out.1 0).trans rfl
     have s1 := (blk_cell hF.out.2.1 1).trans rfl
     have y1 := blk_frozen hF.out.1 1
     have z1 := (blk_cell hF.out.1 1).trans rfl
     have s2 := (blk_cell hF.out.2.1 2).trans rfl
     have y2 := blk_frozen hF.out.1 2
     have z2 := (blk_cell hF.out.1 2).trans rfl
     obtain ⟨hZ9, hG9⟩ := put3 (.int .i64 e) (.slice A6 ws.length c6) (.slice B6 ns.length d6) hF.out.1
     replace hZ9 := Lib.hid hZ9
     replace hG9 := Lib.hid hG9
     go_wp2_with fail
     refine bodyPost_ret (results_ct rfl _ _ b2 27 _ (0, 0) _ rfl hZ9.out Tryz.underlying27 rfl (by kernel_rfl)) rfl ?_
     exact ⟨A6, c6, B6, d6, rfl, hc6.out, hd6.out, (Kd.R_reads' (R_put3 hR8.out hF.out.1 (fun z hz => by rw [List.mem_singleton.1 hz]; decide) _ _ _)).2.2, (Kd.R_reads' (R_put3 hR.out hF.out.1 (fun z hz => by rw [List.mem_singleton.1 hz]; decide) _ _ _)).2.2, hF.out.2.2.2.1.grown hG9.out hF.out.2.2.2.1.size (fun k e => by injection e with e; have := hF.out.2.2.2.2.2.2.2.2.2.2.2.2.2; omega)⟩
end Go.Proofs.YtldlkbjbfgieeaaGreatDoor.Gs
