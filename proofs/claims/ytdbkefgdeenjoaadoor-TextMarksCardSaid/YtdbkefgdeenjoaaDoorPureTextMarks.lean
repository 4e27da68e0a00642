import Derived.Test.YtdbkefgdeenjoaaDoorX28
import Derived.Test.YtdbkefgdeenjoaaDoorMark
namespace Go.Proofs.YtdbkefgdeenjoaaDoor.Plain
set_option linter.unusedVariables false
set_option linter.unusedSimpArgs false
open Go.RowKit Go.Proofs.YtdbkefgdeenjoaaDoor.X Go.Proofs.YtdbkefgdeenjoaaDoorW.PrintWords Go.Proofs.YtdbkefgdeenjoaaDoorW.PrintLast
theorem marks_true (l : List Int) (a1 : Int) : Ev (fun k => grillelaw01_TextMarks.j0 k l a1 true) true := by
  refine Ev.succ ?_
  simp only [grillelaw01_TextMarks.j0]
  exact Ev.pos (by simp) (Ev.val _)
theorem marks_false (l : List Int) (a1 : Int) (h0 : 0 ≤ a1) (h1 : a1 < 256) (hl : l.length ≤ 2000) (hz : l.head? ≠ some 0) : Ev (fun k => grillelaw01_TextMarks.j0 k l a1 false) true := by
  refine Ev.succ ?_
  simp only [grillelaw01_TextMarks.j0]
  refine Ev.neg (by decide) ?_
  have hc : Int.tmod (wrap64 a1) 5 = a1 % 5 := by
    rw [w64 a1 (by omega) (by omega), Int.tmod_eq_emod_of_nonneg h0]
  simp only [hc]
  obtain ⟨c, ec⟩ : ∃ c, a1 % 5 = c := ⟨_, rfl⟩
  have hc0 : 0 ≤ c := by omega
  have hc4 : c ≤ 4 := by omega
  simp only [ec]
  rw [encode_eq l c (by omega)]
  simp only [Option.bind_some]
  rw [if_neg (by omega)]
  by_cases hk : ∀ r ∈ l, ok r
  · rw [if_pos hk]
    refine Ev.pos rfl ?_
    refine Ev.bind (detect_eq _) ?_
    rw [detect_encode c l hc0 hc4 hk hz]
    refine Ev.pos rfl ?_
    refine Ev.pos hc0 (Ev.pos (by simp; omega) ?_)
    refine Ev.pos ?_ ?_
    · have : c = 0 ∨ c = 1 ∨ c = 2 ∨ c = 3 ∨ c = 4 := by omega
      rcases this with rfl | rfl | rfl | rfl | rfl <;> decide
    · refine (Ev.val _).eq ?_
      rw [encode_mark c l hc0 hc4, List.length_append]
      have := mark_length c hc0 hc4
      simp
      omega
  · rw [if_neg hk]
    exact Ev.neg (by simp) (Ev.pos rfl ((Ev.val _).eq (by simp)))
theorem textMarks : grillelaw01_TextMarks.Pure := by
  intro l0 a1 hm hy hw h1
  refine Ev.ex (g := fun k => grillelaw01_TextMarks.f k l0 a1) ?_
  have hr : 0 ≤ a1 ∧ a1 < 256 := by
    simp [Lit.wf, IntKind.min, IntKind.max, IntKind.bits, IntKind.signed] at h1
    omega
  simp only [grillelaw01_TextMarks.f, grillelaw01_alive.f, Option.bind_some]
  refine Ev.pos (by simp) ?_
  by_cases hl : (l0.length : Int) > 2000
  · exact Ev.pos hl (marks_true _ _)
  refine Ev.neg hl ?_
  by_cases hp : (l0.length : Int) > 0
  · refine Ev.pos hp (Ev.pos (by omega) ?_)
    by_cases hz : rd l0 0 = 0
    · simp only [hz]
      exact marks_true _ _
    · rw [show (rd l0 0 == 0) = false by simpa using hz]
      exact marks_false _ _ hr.1 hr.2 (by omega) (head_rd _ (by simp [hz]))
  · exact Ev.neg hp (marks_false _ _ hr.1 hr.2 (by omega) (head_rd _ (by omega)))
end Go.Proofs.YtdbkefgdeenjoaaDoor.Plain
namespace Go.Proofs.YtdbkefgdeenjoaaDoor.Pure
theorem TextMarks : X.grillelaw01_TextMarks.Pure := Plain.textMarks
end Go.Proofs.YtdbkefgdeenjoaaDoor.Pure
