/- The binds that billetlaw16.Fit makes may stand in a message. -/
import Derived.Test.YtdgaancbeakfdaaDoorPf
namespace Go.Proofs.YtdgaancbeakfdaaDoor.Rt
set_option linter.unusedVariables false
set_option linter.unusedSimpArgs false
open Go.RowKit Go.Proofs.YtdgaancbeakfdaaDoorW.PrintWords Go.Proofs.YtdgaancbeakfdaaDoorW.PrintLast Go.Proofs.YtdgaancbeakfdaaDoor.Mo Go.Proofs.YtdgaancbeakfdaaDoor.Q Go.Proofs.YtdgaancbeakfdaaDoor.Nm Go.Proofs.YtdgaancbeakfdaaDoor.Gn Go.Proofs.YtdgaancbeakfdaaDoor.Sl
theorem bl_trans : ∀ {x y z : List UInt8}, Op.bytesLess x y = true → Op.bytesLess y z = true → Op.bytesLess x z = true
  | x, [], z, h, _ => by cases x <;> simp [Op.bytesLess] at h
  | x, b :: y, [], _, h => by simp [Op.bytesLess] at h
  | [], b :: y, c :: z, _, _ => rfl
  | a :: x, b :: y, c :: z, h1, h2 => by
    simp only [Op.bytesLess, Bool.or_eq_true, decide_eq_true_eq, Bool.and_eq_true, beq_iff_eq, UInt8.lt_iff_toNat_lt, ← UInt8.toNat_inj] at *
    rcases h1 with h1 | ⟨h1, h1'⟩
    · rcases h2 with h2 | ⟨h2, _⟩
      · exact .inl (by omega)
      · exact .inl (by omega)
    · rcases h2 with h2 | ⟨h2, h2'⟩
      · exact .inl (by omega)
      · exact .inr ⟨by omega, bl_trans h1' h2'⟩
theorem ahd_iff (a b : S42) : ahd a b = true ↔ Op.bytesLess a.f0.toList b.f0.toList = true ∨ a.f0.toList = b.f0.toList ∧ Op.bytesLess a.f1.toList b.f1.toList = true := by
  unfold ahd
  by_cases h1 : Op.bytesLess a.f0.toList b.f0.toList = true
  · rw [if_pos h1]; exact ⟨fun _ => .inl h1, fun _ => rfl⟩
  · rw [if_neg h1]
    by_cases h2 : Op.bytesLess b.f0.toList a.f0.toList = true
    · rw [if_pos h2]
      refine ⟨(fun h => by cases h), fun h => ?_⟩
      rcases h with h | ⟨h, _⟩
      · exact absurd h h1
      · rw [h, bl_irr] at h2; cases h2
    · rw [if_neg h2]
      have e := bl_tri _ _ ((Bool.not_eq_true _).mp h1) ((Bool.not_eq_true _).mp h2)
      exact ⟨fun h => .inr ⟨e, h⟩, fun h => by rcases h with h | ⟨_, h⟩; exact absurd h h1; exact h⟩
theorem ahd_trans {a b c : S42} (h1 : ahd a b = true) (h2 : ahd b c = true) : ahd a c = true := by
  rw [ahd_iff] at *
  rcases h1 with h1 | ⟨h1, h1'⟩ <;> rcases h2 with h2 | ⟨h2, h2'⟩
  · exact .inl (bl_trans h1 h2)
  · exact .inl (h2 ▸ h1)
  · exact .inl (h1 ▸ h2)
  · exact .inr ⟨h1.trans h2, bl_trans h1' h2'⟩
theorem geqS_eq (x b : S42) : geqS x b = !(ahd x b) := by
  unfold geqS ahd
  by_cases h1 : Op.bytesLess b.f0.toList x.f0.toList = true
  · rw [if_pos h1, if_neg (by rw [bl_asymm _ _ h1]; decide), if_pos h1]; rfl
  · rw [if_neg h1]
    by_cases h2 : Op.bytesLess x.f0.toList b.f0.toList = true
    · rw [if_pos h2, if_neg (by intro e; rw [e, bl_irr] at h2; cases h2)]; rfl
    · rw [if_neg h2, if_neg h1, if_pos (bl_tri _ _ ((Bool.not_eq_true _).mp h2) ((Bool.not_eq_true _).mp h1))]
/-- behind b, or at its place -/
theorem geq_cases {x b : S42} (h : ahd x b = false) : ahd b x = true ∨ samekey x b = true := by
  unfold samekey
  unfold ahd at h
  by_cases h1 : Op.bytesLess x.f0.toList b.f0.toList = true
  · rw [if_pos h1] at h; cases h
  · rw [if_neg h1] at h
    by_cases h2 : Op.bytesLess b.f0.toList x.f0.toList = true
    · exact .inl ((ahd_iff _ _).2 (.inl h2))
    · rw [if_neg h2] at h
      have e := bl_tri _ _ ((Bool.not_eq_true _).mp h1) ((Bool.not_eq_true _).mp h2)
      by_cases h3 : Op.bytesLess b.f1.toList x.f1.toList = true
      · exact .inl ((ahd_iff _ _).2 (.inr ⟨e.symm, h3⟩))
      · have e2 := bl_tri _ _ h ((Bool.not_eq_true _).mp h3)
        exact .inr (by rw [decide_eq_true e, decide_eq_true e2]; rfl)
theorem not_same {x b : S42} (h : ahd x b = true) : samekey x b = false := by
  unfold samekey
  rcases (ahd_iff _ _).1 h with h | ⟨_, h⟩
  · rw [decide_eq_false (show ¬ x.f0.toList = b.f0.toList by intro e; rw [e, bl_irr] at h; cases h)]; rfl
  · rw [decide_eq_false (show ¬ x.f1.toList = b.f1.toList by intro e; rw [e, bl_irr] at h; cases h)]; simp
theorem mem_keepS {x b y : S42} (h : y ∈ keepS x b) : y = x ∧ samekey x b = false := by
  unfold keepS at h
  cases hs : samekey x b with
  | true => rw [hs] at h; simp at h
  | false => rw [hs] at h; simp at h; exact ⟨h, rfl⟩
theorem mem_ins1 (b : S42) : ∀ (put : Bool) (xs : List S42) (y : S42), y ∈ ins1 b put xs → (put = false ∧ y = b) ∨ y ∈ xs
  | put, [], y, h => by cases put <;> simp [ins1] at h; exact .inl ⟨rfl, h⟩
  | put, x :: xs, y, h => by
    have i1 := mem_ins1 b true xs y
    have i2 := mem_ins1 b put xs y
    unfold ins1 at h
    split at h
    · rename_i hc
      have hp : put = false := by cases put; rfl; simp at hc
      rcases List.mem_cons.1 h with h | h
      · exact .inl ⟨hp, h⟩
      · rcases List.mem_append.1 h with h | h
        · exact .inr ((mem_keepS h).1 ▸ List.mem_cons_self)
        · rcases i1 h with ⟨h, _⟩ | h
          · cases h
          · exact .inr (List.mem_cons_of_mem _ h)
    · rcases List.mem_append.1 h with h | h
      · exact .inr ((mem_keepS h).1 ▸ List.mem_cons_self)
      · rcases i2 h with h | h
        · exact .inl h
        · exact .inr (List.mem_cons_of_mem _ h)
def Srt (l : List S42) : Prop := l.Pairwise (fun a b => ahd a b = true)
theorem ins1_put (b : S42) : ∀ xs : List S42, Srt xs → Srt (ins1 b true xs)
  | [], _ => by simp [ins1, Srt]
  | x :: xs, h => by
    obtain ⟨h1, h2⟩ := List.pairwise_cons.1 h
    have ih := ins1_put b xs h2
    unfold ins1
    rw [if_neg (by simp)]
    unfold keepS
    split
    · exact ih
    · refine List.pairwise_cons.2 ⟨fun y hy => ?_, ih⟩
      rcases mem_ins1 b true xs y hy with ⟨h, _⟩ | h
      · cases h
      · exact h1 y h
theorem ins1_srt (b : S42) : ∀ xs : List S42, Srt xs → Srt (ins1 b false xs)
  | [], _ => by simp [ins1, Srt]
  | x :: xs, h => by
    obtain ⟨h1, h2⟩ := List.pairwise_cons.1 h
    unfold ins1
    rw [geqS_eq]
    cases hx : ahd x b with
    | false =>
      rw [if_pos (by rfl)]
      have hp := ins1_put b xs h2
      have big : ∀ y ∈ xs, ahd b y = true := fun y hy => by
        rcases geq_cases hx with hb | hs
        · exact ahd_trans hb (h1 y hy)
        · have := h1 y hy
          unfold samekey at hs
          simp only [Bool.and_eq_true, decide_eq_true_eq] at hs
          rw [ahd_iff] at *
          rw [← hs.1, ← hs.2]; exact this
      unfold keepS
      split
      · refine List.pairwise_cons.2 ⟨fun y hy => ?_, hp⟩
        rcases mem_ins1 b true xs y hy with ⟨h, _⟩ | h
        · cases h
        · exact big y h
      · rename_i hs
        have hb : ahd b x = true := by
          rcases geq_cases hx with hb | hs'
          · exact hb
          · exact absurd hs' hs
        refine List.pairwise_cons.2 ⟨fun y hy => ?_, List.pairwise_cons.2 ⟨fun y hy => ?_, hp⟩⟩
        · rcases List.mem_cons.1 hy with rfl | hy
          · exact hb
          · rcases mem_ins1 b true xs y hy with ⟨h, _⟩ | h
            · cases h
            · exact big y h
        · rcases mem_ins1 b true xs y hy with ⟨h, _⟩ | h
          · cases h
          · exact h1 y h
    | true =>
      rw [if_neg (by simp)]
      unfold keepS
      rw [not_same hx, if_neg (by decide)]
      refine List.pairwise_cons.2 ⟨fun y hy => ?_, ins1_srt b xs h2⟩
      rcases mem_ins1 b false xs y hy with ⟨_, rfl⟩ | h
      · exact hx
      · exact h1 y h
theorem fold_srt : ∀ (bs o : List S42), Srt o → (∀ x ∈ o, okB x = true) → (∀ x ∈ bs, okB (more1 x) = true) → Srt (bs.foldl (fun o b => ins1 (more1 b) false o) o) ∧ ∀ x ∈ bs.foldl (fun o b => ins1 (more1 b) false o) o, okB x = true
  | [], o, h1, h2, _ => ⟨h1, h2⟩
  | b :: bs, o, h1, h2, h3 => fold_srt bs _ (ins1_srt _ _ h1) (fun x hx => by
      rcases mem_ins1 _ _ _ _ hx with ⟨_, rfl⟩ | h
      · exact h3 b List.mem_cons_self
      · exact h2 x h) (fun x hx => h3 x (List.mem_cons_of_mem _ hx))
theorem nm_w : ∀ n : Nat, n < 8 → nm ((⟨#[119]⟩ : ByteArray) ++ names8.getD n ByteArray.empty) = true := by decide +kernel
theorem nm_n : ∀ n : Nat, n < 8 → nm ((⟨#[110]⟩ : ByteArray) ++ names8.getD n ByteArray.empty) = true := by decide +kernel
theorem ok_bind1 {a : Int} (h : I64 a) : okB (more1 (bind1 a)) = true := by
  obtain ⟨p1, p2⟩ := pk_in h (show (0 : Int) < 1048576 by decide)
  unfold okB more1 bind1 rdOf
  generalize pk a 1048576 = t at *
  have e8 : wrap64 (Int.tdiv t 8) = t / 8 := by rw [Int.tdiv_eq_ediv_of_nonneg p1]; unfold wrap64; omega
  have e64 : wrap64 (Int.tdiv t 64) = t / 64 := by rw [Int.tdiv_eq_ediv_of_nonneg p1]; unfold wrap64; omega
  rw [e8, e64, Int.tmod_eq_emod_of_nonneg p1, Int.tmod_eq_emod_of_nonneg (show 0 ≤ t / 8 by omega), Int.tmod_eq_emod_of_nonneg (show 0 ≤ t / 64 by omega)]
  have ew : wrap64 (t / 64 % 5 + 1) = t / 64 % 5 + 1 := by unfold wrap64; omega
  show (nm ((⟨#[119]⟩ : ByteArray) ++ names8.getD (t % 8).toNat ByteArray.empty) && (nm ((⟨#[110]⟩ : ByteArray) ++ names8.getD (t / 8 % 8).toNat ByteArray.empty) && (decide (1 ≤ wrap64 (t / 64 % 5 + 1)) && decide (wrap64 (t / 64 % 5 + 1) ≤ 1000)))) = true
  rw [nm_w _ (by omega), nm_n _ (by omega), ew, decide_eq_true (by omega), decide_eq_true (by omega)]
  rfl
theorem at35_get {l : List S42} {i : Nat} (h : i < l.length) : at42 l i = l[i] := by unfold at42; rw [List.getD_eq_getElem?_getD, List.getElem?_eq_getElem h]; rfl
theorem goods_of {l : List S42} (hs : Srt l) (ho : ∀ x ∈ l, okB x = true) : ∀ (d i : Nat), i + d = l.length → goods l i d = true
  | 0, i, _ => rfl
  | d + 1, i, e => by
    unfold goods good
    rw [goods_of hs ho d (i + 1) (by omega), at35_get (show i < l.length by omega), ho _ (List.getElem_mem _)]
    by_cases hi : i = 0
    · rw [decide_eq_true hi]; rfl
    · rw [at35_get (show i - 1 < l.length by omega), List.pairwise_iff_getElem.1 hs (i - 1) i (by omega) (by omega) (by omega)]; simp
theorem fbS_goods (l : List Int) (hl : ∀ x ∈ l, I64 x) : goods (fbS l) 0 (fbS l).length = true := by
  obtain ⟨h1, h2⟩ := fold_srt (rawS l) [] List.Pairwise.nil (fun x hx => by cases hx) (fun x hx => by
    obtain ⟨a, ha, rfl⟩ := List.mem_map.1 hx
    exact ok_bind1 (hl a (List.mem_of_mem_take ha)))
  exact goods_of (l := fbS l) h1 h2 _ 0 (by omega)
end Go.Proofs.YtdgaancbeakfdaaDoor.Rt
