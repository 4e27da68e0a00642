/- Tags come back from their words, and words from their tags; unlike tags have unlike words. No condition. -/
import Derived.Test.YtmedojlhnpcniaaX6
import Derived.Test.YtmedojlhnpcniaaImplThree
set_option linter.unusedSimpArgs false
namespace Go.Proofs.Ytmedojlhnpcniaa.Pure
open Go.RowKit Go.Proofs.Ytmedojlhnpcniaa.X Go.Proofs.YtmedojlhnpcniaaW.PrintWords Go.Proofs.YtmedojlhnpcniaaW.PrintLast
open Go.Proofs.Ytmedojlhnpcniaa.Bytes Go.Proofs.Ytmedojlhnpcniaa.Plain Go.Proofs.Ytmedojlhnpcniaa.Impl


theorem read_word (t : List UInt8) (h : right t = true) : Impl.read (word t) = (t, 0) := by
  unfold right at h
  by_cases hc : t ∈ cores
  · unfold word; rw [if_pos hc]
    unfold Impl.read; rw [if_pos ((pre_two _).mpr ⟨t, rfl⟩), show (33 :: 33 :: t : List UInt8).drop 2 = t from rfl, if_pos hc]
  · rw [decide_eq_false hc, Bool.false_or] at h
    unfold word; rw [if_neg hc, if_pos h]
    unfold Impl.read; rw [if_neg (by rw [own_pre h]; decide), if_pos h]
theorem word_read (w : List UInt8) (h : (Impl.read w).2 = 0) : word (Impl.read w).1 = w ∧ right (Impl.read w).1 = true := by
  unfold Impl.read at h ⊢
  by_cases h1 : pre [33, 33] w = true
  · obtain ⟨t, rfl⟩ := (pre_two w).mp h1
    rw [if_pos h1, show (33 :: 33 :: t : List UInt8).drop 2 = t from rfl] at h ⊢
    by_cases hc : t ∈ cores
    · rw [if_pos hc]
      refine ⟨?_, ?_⟩
      · show word t = _
        unfold word; rw [if_pos hc]
      · show right t = true
        unfold right; rw [decide_eq_true hc]; rfl
    · rw [if_neg hc] at h; cases h
  · rw [if_neg h1] at h ⊢
    by_cases ho : own w = true
    · have hc : ¬ w ∈ cores := fun hc => by rw [own_core hc] at ho; cases ho
      rw [if_pos ho]
      refine ⟨?_, ?_⟩
      · show word w = _
        unfold word; rw [if_neg hc, if_pos ho]
      · show right w = true
        unfold right; rw [ho, Bool.or_true]
    · rw [if_neg ho] at h; cases h
theorem read_err (w : List UInt8) : (Impl.read w).2 = 0 ∨ (Impl.read w).1 = [] := by
  unfold Impl.read
  repeat' split
  all_goals simp
theorem read_len (w : List UInt8) : (Impl.read w).1.length ≤ w.length := by
  unfold Impl.read
  repeat' split
  all_goals simp
theorem word_inj (t u : List UInt8) (ht : right t = true) (hu : right u = true) : word u = word t ↔ t = u := by
  constructor
  · intro h
    have h1 := read_word t ht
    have h2 := read_word u hu
    rw [h, h1] at h2
    exact (Prod.mk.inj h2).1
  · intro h; rw [h]
theorem word_none (t : List UInt8) (h : right t = false) : word t = [] := by
  unfold right at h
  rw [Bool.or_eq_false_iff] at h
  unfold word
  rw [if_neg (of_decide_eq_false h.1), if_neg (by rw [h.2]; decide)]
theorem back_last (w x : List UInt8) (e : Int) (k : Nat) (h0 : e = 0 → word x = w ∧ right x = true) (h1 : e ≠ 0 → x = []) (hx : x.length ≤ 450) :
    grillelaw03_TagBack.j1 (k + 1) (ba w) (ba x) e false = some true := by
  simp only [grillelaw03_TagBack.j1]
  rw [if_neg (by decide), word1 x hx, right1]
  simp only [Option.bind_some, toList_mk]
  by_cases he : e = 0
  · rw [if_pos he, if_pos (h0 he).1, (h0 he).2]
  · rw [if_neg he, if_pos (h1 he)]
theorem back_join (t u w : List UInt8) (b : Bool) (k : Nat) (hb : b = false → t.length ≤ 400 ∧ u.length ≤ 400 ∧ w.length ≤ 400) : grillelaw03_TagBack.j0 (k + 2) (ba t) (ba u) (ba w) b = some true := by
  rw [show k + 2 = (k + 1) + 1 from rfl]
  simp only [grillelaw03_TagBack.j0]
  cases b with
  | true => rfl
  | false =>
    obtain ⟨h1, h2, h3⟩ := hb rfl
    have hl := read_len w
    have last : grillelaw03_TagBack.j1 (k + 1) (ba w) (ba (Impl.read w).1) (Impl.read w).2 false = some true :=
      back_last w _ _ k (fun e => word_read w e) (fun e => (read_err w).resolve_left e) (by omega)
    rw [if_neg (by decide), word1 t (by omega), right1]
    simp only [Option.bind_some, toList_mk]
    rw [read1, read1, right1, word1 u (by omega)]
    simp only [Option.bind_some, toList_mk]
    by_cases hr : right t = true
    · rw [if_pos hr, read_word t hr, if_pos rfl, if_pos rfl]
      by_cases hu : right u = true
      · rw [if_pos hu]
        have : ((word u == word t) != (t == u)) = false := by
          by_cases e : t = u
          · subst e; simp
          · have e2 : ¬ word u = word t := fun h => e ((word_inj t u hr hu).mp h)
            rw [beq_eq_false_iff_ne.mpr e, beq_eq_false_iff_ne.mpr e2]; rfl
        rw [this]; exact last
      · rw [if_neg hu]; exact last
    · rw [if_neg hr, word_none t (by simpa using hr)]; rfl
theorem TagBack : grillelaw03_TagBack.Pure := by
  intro a0 a1 a2 _ _ _
  obtain ⟨t, rfl⟩ := lit a0
  obtain ⟨u, rfl⟩ := lit a1
  obtain ⟨w, rfl⟩ := lit a2
  refine ⟨30010 + 2, ?_⟩
  unfold grillelaw03_TagBack.f
  rw [alive _ (by omega)]
  simp only [Option.bind_some, size_mk]
  rw [if_pos trivial]
  by_cases h : (t.length : Int) > 400
  · rw [if_pos h, back_join t u w true 30010 (fun e => by cases e)]
  · rw [if_neg h]
    by_cases h2 : (u.length : Int) > 400
    · rw [if_pos h2, back_join t u w true 30010 (fun e => by cases e)]
    · rw [if_neg h2, back_join t u w _ 30010 (fun e => by have := of_decide_eq_false e; omega)]

end Go.Proofs.Ytmedojlhnpcniaa.Pure
