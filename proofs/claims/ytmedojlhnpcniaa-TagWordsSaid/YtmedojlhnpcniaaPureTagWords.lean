/- Whether any tag may be, how it is written, and what any word is as a tag, are the document's, or there is none. No condition. -/
import Derived.Test.YtmedojlhnpcniaaX6
import Derived.Test.YtmedojlhnpcniaaImplThree
set_option linter.unusedSimpArgs false
namespace Go.Proofs.Ytmedojlhnpcniaa.Pure
open Go.RowKit Go.Proofs.Ytmedojlhnpcniaa.X Go.Proofs.YtmedojlhnpcniaaW.PrintWords Go.Proofs.YtmedojlhnpcniaaW.PrintLast
open Go.Proofs.Ytmedojlhnpcniaa.Bytes Go.Proofs.Ytmedojlhnpcniaa.Plain Go.Proofs.Ytmedojlhnpcniaa.Impl


theorem words_join (t w : List UInt8) (b : Bool) (k : Nat) (hk : 30010 ≤ k) (hb : b = false → t.length ≤ 400 ∧ w.length ≤ 400) : grillelaw03_TagWords.j0 (k + 1) (ba t) (ba w) b = some true := by
  simp only [grillelaw03_TagWords.j0]
  cases b with
  | true => rfl
  | false =>
    obtain ⟨h1, h2⟩ := hb rfl
    rw [if_neg (by decide), read1, read2 w k (by omega) (by omega), core1, core2 t k (by omega), right1, right2 t k (by omega) (by omega), word1 t (by omega), word2 t k (by omega) (by omega)]
    simp only [Option.bind_some, toList_mk]
    rw [if_pos (by simp), if_pos (by simp), if_pos trivial, if_pos trivial]; simp
theorem TagWords : grillelaw03_TagWords.Pure := by
  intro a0 a1 _ _
  obtain ⟨t, rfl⟩ := lit a0
  obtain ⟨w, rfl⟩ := lit a1
  refine ⟨30010 + 1, ?_⟩
  unfold grillelaw03_TagWords.f
  rw [alive _ (by omega)]
  simp only [Option.bind_some, size_mk]
  rw [if_pos trivial]
  by_cases h : (t.length : Int) > 400
  · rw [if_pos h, words_join t w true 30010 (by omega) (fun e => by cases e)]
  · rw [if_neg h, words_join t w _ 30010 (by omega) (fun e => by have := of_decide_eq_false e; omega)]

end Go.Proofs.Ytmedojlhnpcniaa.Pure
