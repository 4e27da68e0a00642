/- The tag of any text, and whether another one fits it, are the document's. No condition. -/
import Derived.Test.YtmedojlhnpcniaaX5
import Derived.Test.YtmedojlhnpcniaaImplThree
set_option linter.unusedSimpArgs false
namespace Go.Proofs.Ytmedojlhnpcniaa.Pure
open Go.RowKit Go.Proofs.Ytmedojlhnpcniaa.X Go.Proofs.YtmedojlhnpcniaaW.PrintWords Go.Proofs.YtmedojlhnpcniaaW.PrintLast
open Go.Proofs.Ytmedojlhnpcniaa.Bytes Go.Proofs.Ytmedojlhnpcniaa.Plain Go.Proofs.Ytmedojlhnpcniaa.Impl


theorem resolves_join (s t : List UInt8) (b : Bool) (k : Nat) (hk : 30010 ≤ k) (hb : b = false → s.length ≤ 400 ∧ t.length ≤ 400) : grillelaw03_TagResolves.j0 (k + 1) (ba s) (ba t) b = some true := by
  simp only [grillelaw03_TagResolves.j0]
  cases b with
  | true => rfl
  | false =>
    obtain ⟨h1, h2⟩ := hb rfl
    rw [if_neg (by decide), resolve1 s k (by omega) (by omega), resolve2 s k (by omega) (by omega), fits1 t s k (by omega) (by omega), fits2 t s k (by omega) (by omega) (by omega), R_eq]
    simp only [Option.bind_some, toList_mk]
    rw [if_pos trivial]; simp
theorem TagResolves : grillelaw03_TagResolves.Pure := by
  intro a0 a1 _ _
  obtain ⟨s, rfl⟩ := lit a0
  obtain ⟨t, rfl⟩ := lit a1
  refine ⟨30010 + 1, ?_⟩
  unfold grillelaw03_TagResolves.f
  rw [alive _ (by omega)]
  simp only [Option.bind_some, size_mk]
  rw [if_pos trivial]
  by_cases h : (s.length : Int) > 400
  · rw [if_pos h, resolves_join s t true 30010 (by omega) (fun e => by cases e)]
  · rw [if_neg h, resolves_join s t _ 30010 (by omega) (fun e => by have := of_decide_eq_false e; omega)]

end Go.Proofs.Ytmedojlhnpcniaa.Pure
