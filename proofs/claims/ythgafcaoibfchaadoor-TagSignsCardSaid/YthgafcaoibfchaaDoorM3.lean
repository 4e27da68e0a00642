/- Words and walks that the row of TagSigns needs: printed by programs, and plain laws. -/
import Derived.Test.YthgafcaoibfchaaDoorM2
namespace Go.Proofs.YthgafcaoibfchaaDoor.Impl
open Go.RowKit Go.Proofs.YthgafcaoibfchaaDoor.X Go.Proofs.YthgafcaoibfchaaDoorW.PrintWords Go.Proofs.YthgafcaoibfchaaDoorW.PrintLast
open Go.Proofs.YthgafcaoibfchaaDoor.Bytes Go.Proofs.YthgafcaoibfchaaDoor.Plain
set_option linter.unusedVariables false
set_option linter.unusedSimpArgs false
def Num (l : List UInt8) : Prop := ∀ c ∈ l, c ∈ ([46, 48, 49, 50, 51, 52, 53, 54, 55, 56, 57] : List UInt8)
theorem num_no {l m : List UInt8} (h : Num l) (hm : ¬ Num m) : l ≠ m := fun e => hm (e ▸ h)
theorem num_sgn {l : List UInt8} (h : Num l) : sgn l = l := by
  cases l with
  | nil => rfl
  | cons c t =>
    have hc := h c List.mem_cons_self
    show (if c = 43 ∨ c = 45 then t else c :: t) = c :: t
    rw [if_neg]
    rintro (rfl | rfl)
    · exact absurd hc (by decide)
    · exact absurd hc (by decide)
instance (l : List UInt8) : Decidable (Num l) := by unfold Num; infer_instance
theorem num_kinds {l : List UInt8} (h : Num l) (h0 : l ≠ []) : l ∉ nulls ∧ l ∉ bools ∧ l ∉ nans ∧ l ∉ infs := by
  refine ⟨fun hm => ?_, fun hm => ?_, fun hm => ?_, fun hm => ?_⟩
  · simp only [nulls, List.mem_cons, List.not_mem_nil, or_false] at hm
    rcases hm with e | e | e | e | e
    · exact h0 e
    all_goals exact num_no h (by decide) e
  · simp only [bools, List.mem_cons, List.not_mem_nil, or_false] at hm
    rcases hm with e | e | e | e | e | e
    all_goals exact num_no h (by decide) e
  · simp only [nans, List.mem_cons, List.not_mem_nil, or_false] at hm
    rcases hm with e | e | e
    all_goals exact num_no h (by decide) e
  · simp only [infs, List.mem_cons, List.not_mem_nil, or_false] at hm
    rcases hm with e | e | e
    all_goals exact num_no h (by decide) e
theorem num_whole {l : List UInt8} (h : Num l) : whole l = alld 10 l := by
  have p1 : pre [48, 111] l = false := by
    match l, h with
    | [], _ => rfl
    | [a], _ => simp [pre, List.isPrefixOf]
    | a :: b :: t, h =>
      have hb := h b (by simp)
      have : ¬ b = 111 := by rintro rfl; exact absurd hb (by decide)
      simp [pre, List.isPrefixOf]
      intro _ e; exact this e.symm
  have p2 : pre [48, 120] l = false := by
    match l, h with
    | [], _ => rfl
    | [a], _ => simp [pre, List.isPrefixOf]
    | a :: b :: t, h =>
      have hb := h b (by simp)
      have : ¬ b = 120 := by rintro rfl; exact absurd hb (by decide)
      simp [pre, List.isPrefixOf]
      intro _ e; exact this e.symm
  unfold whole
  rw [p1, p2, num_sgn h]
  rfl
theorem whole_sign {c : UInt8} (hc : c = 43 ∨ c = 45) (l : List UInt8) : whole (c :: l) = alld 10 l := by
  have hs : sgn (c :: l) = l := by show (if c = 43 ∨ c = 45 then l else c :: l) = l; rw [if_pos hc]
  have p (x : UInt8) : pre [48, x] (c :: l) = false := by rcases hc with rfl | rfl <;> simp [pre, List.isPrefixOf]
  unfold whole
  rw [p, p, hs]
  rfl
theorem head_kinds (c : UInt8) (l : List UInt8) (hc : c = 43 ∨ c = 45 ∨ c = 32) : c :: l ∉ nulls ∧ c :: l ∉ bools ∧ c :: l ∉ nans ∧ c :: l ∉ infs := by
  rcases hc with rfl | rfl | rfl <;> simp [nulls, bools, nans, infs]
theorem R1_sign {l : List UInt8} (h : Num l) (h0 : l ≠ []) {c : UInt8} (hc : c = 43 ∨ c = 45) : R1 (c :: l) = R1 l := by
  obtain ⟨a1, a2, a3, a4⟩ := head_kinds c l (by rcases hc with h | h <;> simp [h])
  obtain ⟨b1, b2, b3, b4⟩ := num_kinds h h0
  have hs : sgn (c :: l) = l := by show (if c = 43 ∨ c = 45 then l else c :: l) = l; rw [if_pos hc]
  have hr : real (c :: l) = real l := by unfold real; rw [hs, num_sgn h]
  unfold R1
  rw [if_neg a1, if_neg a2, if_neg a3, if_neg b1, if_neg b2, if_neg b3, hs, num_sgn h, if_neg b4, if_neg b4, whole_sign hc, num_whole h, hr]
theorem R1_str (m : List UInt8) (c : UInt8) (u : List UInt8) (hm : m ∉ nulls ∧ m ∉ bools ∧ m ∉ nans) (hs : sgn m = c :: u) (hi : c :: u ∉ infs) (hw : whole m = alld 10 (c :: u)) (hc : dig 10 c = false) (h46 : c ≠ 46) : R1 m = bStr := by
  have hd : alld 10 (c :: u) = false := by unfold alld; simp [hc]
  have hr : real m = false := by
    unfold real
    rw [hs]
    simp only [List.takeWhile_cons, List.dropWhile_cons, hc, Bool.false_eq_true, if_false, if_neg h46, List.length_nil]
    rfl
  unfold R1
  rw [if_neg hm.1, if_neg hm.2.1, if_neg hm.2.2, hs, if_neg hi, hw, hd, hr]
  rfl
theorem R1_two (l : List UInt8) : R1 (43 :: 45 :: l) = bStr := by
  obtain ⟨a1, a2, a3, a4⟩ := head_kinds 43 (45 :: l) (by simp)
  exact R1_str _ 45 l ⟨a1, a2, a3⟩ rfl (head_kinds 45 l (by simp)).2.2.2 (whole_sign (.inl rfl) _) (by decide) (by decide)
theorem R1_blank (l : List UInt8) : R1 (32 :: l) = bStr := by
  obtain ⟨a1, a2, a3, a4⟩ := head_kinds 32 l (by simp)
  have hw : whole (32 :: l) = alld 10 (32 :: l) := by
    have p (x : UInt8) : pre [48, x] (32 :: l) = false := by simp [pre, List.isPrefixOf]
    unfold whole
    rw [p, p]
    rfl
  exact R1_str _ 32 l ⟨a1, a2, a3⟩ rfl a4 hw (by decide) (by decide)
def cut : List UInt8 := [48, 49, 50, 51, 52, 53, 54, 55, 56, 57, 46]
theorem trim_num {l : List UInt8} (h : Lib.trimS l cut = []) : Num l := by
  unfold Lib.trimS Lib.trimLeftS Lib.trimRightS at h
  have h1 : ∀ c ∈ (l.reverse.dropWhile (cut.contains ·)).reverse, cut.contains c = true := by
    have := List.all_eq_true.mp ((drop_nil _ _).mp h)
    exact this
  have h2 : l.reverse.dropWhile (cut.contains ·) = [] := by
    cases hd : l.reverse.dropWhile (cut.contains ·) with
    | nil => rfl
    | cons c t =>
      have hc := List.head_dropWhile_not (cut.contains ·) (l := l.reverse) (by rw [hd]; simp)
      have hm := h1 c (by rw [hd]; simp)
      simp only [hd, List.head_cons] at hc
      rw [hm] at hc
      cases hc
  have h3 := List.all_eq_true.mp ((drop_nil _ _).mp h2)
  intro c hc
  have := h3 c (by simpa using hc)
  simp [cut] at this ⊢
  rcases this with h | h | h | h | h | h | h | h | h | h | h <;> simp [h]
theorem signs_join (l : List UInt8) (b : Bool) (hl : l.length ≤ 400) (hb : b = false → Num l ∧ l ≠ []) (k : Nat) (hk : 30001 ≤ k) : grillelaw03_TagSigns.j0 (k + 1) (ba l) b = some true := by
  simp only [grillelaw03_TagSigns.j0]
  cases b with
  | true => rfl
  | false =>
    obtain ⟨hn, h0⟩ := hb rfl
    rw [if_neg (by decide)]
    have e1 : (⟨#[45]⟩ : ByteArray) ++ ba l = ba (45 :: l) := append_mk [45] l
    have e2 : (⟨#[43]⟩ : ByteArray) ++ ba l = ba (43 :: l) := append_mk [43] l
    have e3 : (⟨#[43, 45]⟩ : ByteArray) ++ ba l = ba (43 :: 45 :: l) := append_mk [43, 45] l
    have e4 : (⟨#[32]⟩ : ByteArray) ++ ba l = ba (32 :: l) := append_mk [32] l
    have hs : (ba l).size = l.length := size_mk l
    rw [e1, e2, e3, e4, hs, resolve1 l k (by omega) hk, resolve1 (45 :: l) k (by simp; omega) hk, resolve1 (43 :: l) k (by simp; omega) hk, resolve1 (43 :: 45 :: l) k (by simp; omega) hk, resolve1 (32 :: l) k (by simp; omega) hk]
    simp only [Option.bind_some]
    rw [if_pos (by omega), R1_sign hn h0 (.inr rfl), if_pos rfl, R1_sign hn h0 (.inl rfl), if_pos rfl, if_pos (by omega), R1_two, if_pos (toList_mk bStr), R1_blank]
    show some ((ba bStr).toList == bStr) = _
    rw [show (ba bStr).toList = bStr from toList_mk bStr]
    rfl
end Go.Proofs.YthgafcaoibfchaaDoor.Impl
namespace Go.Proofs.YthgafcaoibfchaaDoor.Pure
open Go.RowKit Go.Proofs.YthgafcaoibfchaaDoor.X Go.Proofs.YthgafcaoibfchaaDoorW.PrintWords Go.Proofs.YthgafcaoibfchaaDoorW.PrintLast
open Go.Proofs.YthgafcaoibfchaaDoor.Bytes Go.Proofs.YthgafcaoibfchaaDoor.Plain Go.Proofs.YthgafcaoibfchaaDoor.Impl
theorem TagSigns : grillelaw03_TagSigns.Pure := by
  intro a0 hs
  obtain ⟨l, rfl⟩ := lit a0
  refine ⟨40001, ?_⟩
  have hsz : (ByteArray.mk l.toArray).size = l.length := size_mk l
  unfold grillelaw03_TagSigns.f
  rw [Impl.alive 40001 (by decide)]
  simp only [Option.bind_some]
  rw [if_pos trivial, hsz]
  by_cases h4 : (l.length : Int) > 400
  · rw [if_pos h4]
  rw [if_neg h4]
  have hj (b : Bool) (hb : b = false → Num l ∧ l ≠ []) := signs_join l b (by omega) hb 40000 (by decide)
  by_cases h0 : (ByteArray.mk l.toArray).toList = ([] : List UInt8)
  · rw [if_pos h0]
    exact hj true (fun h => by cases h)
  · rw [if_neg h0]
    have hne : l ≠ [] := fun e => h0 (by rw [toList_mk]; exact e)
    have hp : 0 < l.length := List.length_pos_iff.mpr hne
    have ht : strings_Trim.f (ByteArray.mk l.toArray) (⟨#[48, 49, 50, 51, 52, 53, 54, 55, 56, 57, 46]⟩ : ByteArray) = some ⟨(Lib.trimS l cut).toArray⟩ := by
      unfold strings_Trim.f
      rw [if_pos ⟨by decide, by decide, by rw [hsz]; exact hp, by rw [hsz]; omega, by decide⟩]
      rfl
    rw [ht]
    simp only [Option.bind_some]
    rw [toList_mk]
    refine hj _ (fun hb => ⟨trim_num ?_, hne⟩)
    simpa using hb
end Go.Proofs.YthgafcaoibfchaaDoor.Pure
