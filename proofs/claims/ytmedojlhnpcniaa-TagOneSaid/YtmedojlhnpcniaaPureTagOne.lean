/- The tag of a text is of the core, and fits it; of the four that hang on the text none fits that is not it, but a Float an Int. No condition. -/
import Derived.Test.YtmedojlhnpcniaaX7
import Derived.Test.YtmedojlhnpcniaaImplThree
set_option linter.unusedSimpArgs false
namespace Go.Proofs.Ytmedojlhnpcniaa.Pure
open Go.RowKit Go.Proofs.Ytmedojlhnpcniaa.X Go.Proofs.YtmedojlhnpcniaaW.PrintWords Go.Proofs.YtmedojlhnpcniaaW.PrintLast
open Go.Proofs.Ytmedojlhnpcniaa.Bytes Go.Proofs.Ytmedojlhnpcniaa.Plain Go.Proofs.Ytmedojlhnpcniaa.Impl


theorem one_last (s r : List UInt8) (k : Nat) (hk : 30010 ≤ k) (hs : s.length ≤ 400) (h4 : ∀ t ∈ plains, fits t s = if t = r then true else if t = bFloat then r == bInt else false) :
    grillelaw03_TagOne.j0 (k + 6) (ba s) (ba r) false = some true := by
  have step : ∀ (n j : Nat) (hn : n < 4), 30010 ≤ j → grillelaw03_TagOne.l0 (j + 1) (ba s) (ba r) (plains.map ba) 4 (n : Int) = grillelaw03_TagOne.l0 j (ba s) (ba r) (plains.map ba) 4 ((n + 1 : Nat) : Int) := by
    intro n j hn hj
    have hr : rdOf ByteArray.empty (plains.map ba) (n : Int) = ba (plains[n]'hn) := by
      unfold rdOf
      rw [Int.toNat_natCast, List.getD_eq_getElem?_getD, List.getElem?_map, List.getElem?_eq_getElem (show n < plains.length from hn)]; rfl
    have hf := h4 (plains[n]'hn) (List.getElem_mem _)
    simp only [grillelaw03_TagOne.l0]
    rw [if_pos (by omega), if_pos (by omega), if_pos (by simp; omega), hr, fits1 _ s j (by omega) (by omega), hf]
    simp only [Option.bind_some, toList_mk]
    rw [wrap64_nat n (by omega)]
    generalize plains[n]'hn = t
    by_cases h1 : t = r
    · rw [if_pos h1, if_pos h1, if_neg (by simp)]
    · rw [if_neg h1, if_neg h1]
      by_cases h2 : t = bFloat
      · rw [if_pos h2, if_pos h2, if_neg (by simp)]
      · rw [if_neg h2, if_neg h2, if_neg (by simp)]
  have last : ∀ j, grillelaw03_TagOne.l0 (j + 1) (ba s) (ba r) (plains.map ba) 4 4 = some true := by
    intro j; simp only [grillelaw03_TagOne.l0]; rw [if_neg (by decide)]
  have all : grillelaw03_TagOne.l0 (k + 5) (ba s) (ba r) (plains.map ba) 4 0 = some true := by
    have a0 := step 0 (k + 4) (by omega) (by omega)
    have a1 := step 1 (k + 3) (by omega) (by omega)
    have a2 := step 2 (k + 2) (by omega) (by omega)
    have a3 := step 3 (k + 1) (by omega) (by omega)
    exact a0.trans (a1.trans (a2.trans (a3.trans (last k))))
  rw [show k + 6 = (k + 5) + 1 from rfl]
  simp only [grillelaw03_TagOne.j0]
  rw [if_neg (by decide)]
  exact all
theorem one_law (s : List UInt8) (k : Nat) (hk : 30010 ≤ k) : grillelaw03_TagOne.f (k + 6) (ba s) = some true := by
  unfold grillelaw03_TagOne.f
  rw [alive _ (by omega)]
  simp only [Option.bind_some, size_mk]
  rw [if_pos trivial]
  by_cases h : (s.length : Int) > 400
  · rw [if_pos h]
  rw [if_neg h]
  have hs : s.length ≤ 400 := by omega
  have t1 : (⟨#[115, 116, 114]⟩ : ByteArray) = ba bStr := rfl
  have t2 : (⟨#[33, 111, 119, 110]⟩ : ByteArray) = ba [33, 111, 119, 110] := rfl
  have t3 : (⟨#[115, 101, 113]⟩ : ByteArray) = ba bSeq := rfl
  have t4 : (⟨#[109, 97, 112]⟩ : ByteArray) = ba bMap := rfl
  rw [t1, t2, t3, t4, resolve1 s _ (by omega) (by omega)]
  simp only [Option.bind_some]
  have hone := R1_one s
  have f1 : fits bStr s = true := by unfold fits; rw [if_neg (by decide), if_pos rfl]
  have f2 : fits [33, 111, 119, 110] s = true := by unfold fits; rw [if_neg (by decide), if_neg (by decide)]; decide
  have f3 : fits bSeq s = false := by unfold fits; rw [if_neg (by decide), if_neg (by decide)]; decide
  have f4 : fits bMap s = false := by unfold fits; rw [if_neg (by decide), if_neg (by decide)]; decide
  have hcore : R1 s ∈ cores := by
    simp only [List.mem_cons, List.not_mem_nil, or_false] at hone
    rcases hone with e | e | e | e | e <;> rw [e] <;> decide
  have f0 : fits (R1 s) s = true := by
    unfold fits
    by_cases hp : R1 s ∈ plains
    · rw [if_pos hp, if_pos rfl]
    · rw [if_neg hp]
      have : R1 s = bStr := by
        simp only [List.mem_cons, List.not_mem_nil, or_false] at hone
        rcases hone with e | e | e | e | e
        · exact absurd (by rw [e]; decide) hp
        · exact absurd (by rw [e]; decide) hp
        · exact absurd (by rw [e]; decide) hp
        · exact absurd (by rw [e]; decide) hp
        · exact e
      rw [if_pos this]
  have h4 : ∀ t ∈ plains, fits t s = if t = R1 s then true else if t = bFloat then R1 s == bInt else false := by
    intro t ht
    unfold fits
    rw [if_pos ht]
    by_cases e : R1 s = t
    · rw [if_pos e, if_pos e.symm]
    · rw [if_neg e, if_neg (show ¬ t = R1 s from fun x => e x.symm)]
  rw [core1]
  simp only [Option.bind_some]
  rw [if_pos (decide_eq_true hcore), fits1 _ s _ (by omega) (by omega), f0]
  simp only [Option.bind_some]
  rw [if_pos trivial, fits1 _ s _ (by omega) (by omega), f1]
  simp only [Option.bind_some]
  rw [if_pos trivial, fits1 _ s _ (by omega) (by omega), f2]
  simp only [Option.bind_some]
  rw [if_pos trivial, fits1 _ s _ (by omega) (by omega), f3]
  simp only [Option.bind_some]
  rw [if_neg (by decide), fits1 _ s _ (by omega) (by omega), f4]
  simp only [Option.bind_some]
  exact one_last s (R1 s) k hk hs h4
theorem TagOne : grillelaw03_TagOne.Pure := by
  intro a0 _
  obtain ⟨s, rfl⟩ := lit a0
  exact ⟨30010 + 6, one_law s 30010 (Nat.le_refl _)⟩

end Go.Proofs.Ytmedojlhnpcniaa.Pure
