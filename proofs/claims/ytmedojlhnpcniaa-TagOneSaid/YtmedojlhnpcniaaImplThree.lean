/- What the printed functions of tags answer (third part), as plain functions on lists of bytes; texts of at most 450 bytes, rounds enough. -/
import Derived.Test.YtmedojlhnpcniaaImplTwo
set_option linter.unusedSimpArgs false
namespace Go.Proofs.Ytmedojlhnpcniaa.Impl
open Go.RowKit Go.Proofs.Ytmedojlhnpcniaa.X Go.Proofs.YtmedojlhnpcniaaW.PrintWords Go.Proofs.YtmedojlhnpcniaaW.PrintLast
open Go.Proofs.Ytmedojlhnpcniaa.Bytes Go.Proofs.Ytmedojlhnpcniaa.Plain

def names : List UInt8 := [48, 49, 50, 51, 52, 53, 54, 55, 56, 57, 97, 98, 99, 100, 101, 102, 103, 104, 105, 106, 107, 108, 109, 110, 111, 112, 113, 114, 115, 116, 117, 118, 119, 120, 121, 122, 65, 66, 67, 68, 69, 70, 71, 72, 73, 74, 75, 76, 77, 78, 79, 80, 81, 82, 83, 84, 85, 86, 87, 88, 89, 90, 45]
theorem name_byte (c : UInt8) : Own.nameByte c = names.contains c := all_u8 (p := fun c => Own.nameByte c = names.contains c) (by decide +kernel) c
def own (l : List UInt8) : Bool := pre [33] l && decide (l.length ≤ 41) && only (l.drop 1) names

theorem own1 (l : List UInt8) : tag_own.f (ba l) = some (own l) := by
  unfold tag_own.f own
  rw [show (⟨#[33]⟩ : ByteArray) = ba [33] from rfl, cut_eq]
  simp only [Option.bind_some]
  congr 1
  by_cases h : pre [33] l = true
  · rw [if_pos h, h]
    unfold tag_own.g
    dsimp only
    rw [toList_mk, size_mk, Bool.true_and, Bool.true_and, show [(33 : UInt8)].length = 1 from rfl]
    have hl := pre_le h
    have h1 : decide ((l.drop 1).length ≤ 40) = decide (l.length ≤ 41) := by
      rw [List.length_drop]; rw [Bool.eq_iff_iff]; simp
    rw [h1]
    unfold only
    rw [show (l.drop 1).all Own.nameByte = (l.drop 1).all names.contains from by congr 1; funext c; exact name_byte c]
    cases l.drop 1 <;> simp [Bool.and_comm]
  · rw [if_neg h, Bool.eq_false_iff.mpr h]
    rfl
theorem own2 (l : List UInt8) (k : Nat) (hl : l.length ≤ 450) (hk : 30000 ≤ k) : grilleref03_own.f k (ba l) = some (own l) := by
  unfold grilleref03_own.f own
  rw [show (⟨#[33]⟩ : ByteArray) = ba [33] from rfl, begins_eq]
  simp only [Option.bind_some, size_mk]
  rw [extract_all, show (⟨#[48, 49, 50, 51, 52, 53, 54, 55, 56, 57, 97, 98, 99, 100, 101, 102, 103, 104, 105, 106, 107, 108, 109, 110, 111, 112, 113, 114, 115, 116, 117, 118, 119, 120, 121, 122, 65, 66, 67, 68, 69, 70, 71, 72, 73, 74, 75, 76, 77, 78, 79, 80, 81, 82, 83, 84, 85, 86, 87, 88, 89, 90, 45]⟩ : ByteArray) = ba names from rfl,
    only_eq (l.drop 1) names k (by rw [List.length_drop]; omega) (by decide) hk]
  simp only [Option.bind_some]
  by_cases h : pre [33] l = true
  · have h1 : (1 : Int) ≤ (l.length : Int) := by have := pre_le h; simp at this; omega
    rw [if_pos h, h]
    by_cases h2 : l.length ≤ 41
    · have h2' : (l.length : Int) ≤ 41 := by omega
      rw [if_pos h2', if_pos h1]; simp [h2]
    · have h2' : ¬ (l.length : Int) ≤ 41 := by omega
      rw [if_neg h2']; simp [h2]
  · rw [if_neg h, Bool.eq_false_iff.mpr h]; rfl
theorem own_core {l : List UInt8} (h : l ∈ cores) : own l = false := by
  simp only [cores, List.mem_cons, List.not_mem_nil, or_false] at h
  rcases h with rfl | rfl | rfl | rfl | rfl | rfl | rfl <;> rfl
theorem own_head {l : List UInt8} (h : own l = true) : ∃ c t, l = 33 :: c :: t ∧ ¬ c = 33 := by
  cases l with
  | nil => cases h
  | cons a t =>
    cases t with
    | nil => unfold own only at h; simp at h
    | cons c t =>
      unfold own at h
      simp only [Bool.and_eq_true] at h
      obtain ⟨⟨h1, _⟩, h3⟩ := h
      have ha : a = 33 := by unfold pre at h1; simp [List.isPrefixOf] at h1; exact h1.symm
      subst ha
      refine ⟨c, t, rfl, ?_⟩
      rintro rfl
      unfold only at h3
      rw [List.drop_succ_cons, List.drop_zero, List.all_cons] at h3
      have : names.contains (33 : UInt8) = false := by decide
      rw [this] at h3; cases h3

theorem plain_some (l : List UInt8) : tag_plain.f (ba l) = some (decide (l ∈ plains)) := by
  unfold tag_plain.f
  rw [toList_mk]
  by_cases h : l ∈ plains
  · rw [decide_eq_true h]
    simp only [plains, List.mem_cons, List.not_mem_nil, or_false] at h
    rcases h with rfl | rfl | rfl | rfl <;> rfl
  · rw [decide_eq_false h]
    simp only [plains, List.mem_cons, List.not_mem_nil, or_false, not_or] at h
    obtain ⟨a1, a2, a3, a4⟩ := h
    rw [if_neg a1, if_neg a2, if_neg a3, beq_eq_false_iff_ne.mpr a4]
theorem core1 (l : List UInt8) : tag_Core.f (ba l) = some (decide (l ∈ cores)) := by
  unfold tag_Core.f
  rw [toList_mk, plain_some]
  simp only [Option.bind_some]
  by_cases h : l ∈ cores
  · rw [decide_eq_true h]
    simp only [cores, List.mem_cons, List.not_mem_nil, or_false] at h
    rcases h with rfl | rfl | rfl | rfl | rfl | rfl | rfl <;> rfl
  · rw [decide_eq_false h]
    simp only [cores, List.mem_cons, List.not_mem_nil, or_false, not_or] at h
    obtain ⟨a1, a2, a3, a4, a5, a6, a7⟩ := h
    rw [if_neg a6, if_neg a7, if_neg a5, decide_eq_false (by simp only [plains, List.mem_cons, List.not_mem_nil, or_false, not_or]; exact ⟨a1, a2, a3, a4⟩)]
theorem core2 (l : List UInt8) (k : Nat) (hk : 20000 ≤ k) : grilleref03_Core.f k (ba l) = some (decide (l ∈ cores)) := by
  unfold grilleref03_Core.f
  rw [show ([(⟨#[110, 117, 108, 108]⟩ : ByteArray), (⟨#[98, 111, 111, 108]⟩ : ByteArray), (⟨#[105, 110, 116]⟩ : ByteArray), (⟨#[102, 108, 111, 97, 116]⟩ : ByteArray), (⟨#[115, 116, 114]⟩ : ByteArray), (⟨#[115, 101, 113]⟩ : ByteArray), (⟨#[109, 97, 112]⟩ : ByteArray)] : List ByteArray) = cores.map ba from rfl, one_eq l cores k (by decide) hk]
  rfl

def fits (t s : List UInt8) : Bool := if t ∈ plains then (if R1 s = t then true else if t = bFloat then R1 s == bInt else false) else if t = bStr then true else own t
theorem fits1 (t s : List UInt8) (k : Nat) (hs : s.length ≤ 450) (hk : 30001 ≤ k) : tag_Fits.f k (ba t) (ba s) = some (fits t s) := by
  unfold tag_Fits.f fits
  rw [plain_some, resolve1 s k hs hk, own1]
  simp only [Option.bind_some, toList_mk]
  by_cases h : t ∈ plains
  · rw [if_pos (decide_eq_true h), if_pos h]
    by_cases h1 : R1 s = t
    · rw [if_pos h1, if_pos h1]
    · rw [if_neg h1, if_neg h1]
      by_cases h2 : t = bFloat
      · rw [if_pos h2, if_pos h2]
      · rw [if_neg h2, if_neg h2]
  · rw [if_neg (by rw [decide_eq_false h]; decide), if_neg h]
    by_cases h2 : t = bStr
    · rw [if_pos h2, if_pos h2]
    · rw [if_neg h2, if_neg h2]
theorem fits_join (t s : List UInt8) (b : Bool) (k : Nat) (hs : s.length ≤ 450) (hk : 30002 ≤ k) :
    grilleref03_Fits.j0 k (ba t) (ba s) b = some (b || (decide (t ∈ plains) && (if R2 s = t then true else if t = bFloat then R2 s == bInt else false))) := by
  obtain ⟨k, rfl⟩ : ∃ m, k = m + 1 := ⟨k - 1, by omega⟩
  simp only [grilleref03_Fits.j0]
  cases b with
  | true => rfl
  | false =>
    rw [if_neg (by decide), resolve2 s k hs (by omega), show ([(⟨#[110, 117, 108, 108]⟩ : ByteArray), (⟨#[98, 111, 111, 108]⟩ : ByteArray), (⟨#[105, 110, 116]⟩ : ByteArray), (⟨#[102, 108, 111, 97, 116]⟩ : ByteArray)] : List ByteArray) = plains.map ba from rfl, one_eq t plains k (by decide) (by omega)]
    simp only [Option.bind_some, toList_mk, Bool.false_or]
    by_cases h : t ∈ plains
    · rw [if_pos (decide_eq_true h), decide_eq_true h, Bool.true_and]
      by_cases h1 : R2 s = t
      · rw [if_pos h1, if_pos h1]
      · rw [if_neg h1, if_neg h1]
        by_cases h2 : t = bFloat
        · rw [if_pos h2, if_pos h2]
        · rw [if_neg h2, if_neg h2]
    · rw [if_neg (by rw [decide_eq_false h]; decide), decide_eq_false h, Bool.false_and]
theorem fits2 (t s : List UInt8) (k : Nat) (ht : t.length ≤ 450) (hs : s.length ≤ 450) (hk : 30002 ≤ k) : grilleref03_Fits.f k (ba t) (ba s) = some (fits t s) := by
  unfold grilleref03_Fits.f fits
  rw [toList_mk, own2 t k ht (by omega), fits_join t s true k hs hk]
  simp only [Option.bind_some]
  rw [fits_join t s (own t) k hs hk, R_eq]
  by_cases h : t ∈ plains
  · have hc : t ∈ cores := by
      simp only [plains, cores, List.mem_cons, List.not_mem_nil, or_false] at h ⊢
      rcases h with h | h | h | h <;> simp [h]
    have hn : ¬ t = bStr := by
      rintro rfl; revert h; decide
    rw [if_neg hn, if_pos h, own_core hc, decide_eq_true h]; simp only [Bool.false_or, Bool.true_and]
  · rw [if_neg h, decide_eq_false h]
    by_cases h2 : t = bStr
    · rw [if_pos h2, if_pos h2]; rfl
    · rw [if_neg h2, if_neg h2]; simp

def right (t : List UInt8) : Bool := decide (t ∈ cores) || own t
def word (t : List UInt8) : List UInt8 := if t ∈ cores then 33 :: 33 :: t else if own t = true then t else []
/-- The tag that is written so, and the error's number. -/
def read (w : List UInt8) : List UInt8 × Int := if pre [33, 33] w = true then (if w.drop 2 ∈ cores then (w.drop 2, 0) else ([], 14)) else if own w = true then (w, 0) else ([], 14)

theorem right1 (t : List UInt8) : tag_Right.f (ba t) = some (right t) := by
  unfold tag_Right.f right
  rw [core1, own1]
  simp only [Option.bind_some]
  by_cases h : t ∈ cores
  · rw [if_pos (decide_eq_true h), decide_eq_true h]; rfl
  · rw [if_neg (by rw [decide_eq_false h]; decide), decide_eq_false h]; rfl
theorem right2 (t : List UInt8) (k : Nat) (ht : t.length ≤ 450) (hk : 30000 ≤ k) : grilleref03_Right.f k (ba t) = some (right t) := by
  unfold grilleref03_Right.f right
  rw [core2 t k (by omega), own2 t k ht hk]
  simp only [Option.bind_some]
  by_cases h : t ∈ cores
  · rw [if_pos (decide_eq_true h), decide_eq_true h]; rfl
  · rw [if_neg (by rw [decide_eq_false h]; decide), decide_eq_false h]; rfl
theorem word1 (t : List UInt8) (ht : t.length ≤ 450) : tag_Word.f (ba t) = some (ba (word t)) := by
  unfold tag_Word.f word
  rw [core1, own1]
  simp only [Option.bind_some, size_mk]
  by_cases h : t ∈ cores
  · rw [if_pos (decide_eq_true h), if_pos h, if_pos (by omega), show (⟨#[33, 33]⟩ : ByteArray) = ba [33, 33] from rfl, append_mk]; rfl
  · rw [if_neg (by rw [decide_eq_false h]; decide), if_neg h]
    cases own t <;> rfl
theorem word2 (t : List UInt8) (k : Nat) (ht : t.length ≤ 450) (hk : 30000 ≤ k) : grilleref03_Word.f k (ba t) = some (ba (word t)) := by
  unfold grilleref03_Word.f word
  rw [core2 t k (by omega), own2 t k ht hk]
  simp only [Option.bind_some, size_mk]
  by_cases h : t ∈ cores
  · rw [if_pos (decide_eq_true h), if_pos h, if_pos (by omega), show (⟨#[33, 33]⟩ : ByteArray) = ba [33, 33] from rfl, append_mk]; rfl
  · rw [if_neg (by rw [decide_eq_false h]; decide), if_neg h]
    cases own t <;> rfl
theorem read1 (w : List UInt8) : tag_Read.f (ba w) = some (ba (read w).1, (read w).2) := by
  unfold tag_Read.f read
  rw [show (⟨#[33, 33]⟩ : ByteArray) = ba [33, 33] from rfl, cut_eq]
  by_cases h : pre [33, 33] w = true
  · rw [if_pos h, if_pos h]
    simp only [Option.bind_some, if_true]
    rw [core1]
    simp only [Option.bind_some]
    rw [show [(33 : UInt8), 33].length = 2 from rfl]
    by_cases h2 : w.drop 2 ∈ cores
    · rw [if_pos (decide_eq_true h2), if_pos h2]
    · rw [if_neg (by rw [decide_eq_false h2]; decide), if_neg h2]
  · rw [if_neg h, if_neg h]
    simp only [Option.bind_some, Bool.false_eq_true, if_false]
    rw [own1]
    cases own w <;> rfl
theorem pre_two (w : List UInt8) : pre [33, 33] w = true ↔ ∃ t, w = 33 :: 33 :: t := by
  unfold pre
  constructor
  · intro h
    obtain ⟨t, ht⟩ := List.isPrefixOf_iff_prefix.mp h
    exact ⟨t, ht.symm⟩
  · rintro ⟨t, rfl⟩; rfl
theorem own_pre {w : List UInt8} (h : own w = true) : pre [33, 33] w = false := by
  obtain ⟨c, t, rfl, hc⟩ := own_head h
  unfold pre; simp [List.isPrefixOf]; exact fun e => hc e.symm
theorem read2 (w : List UInt8) (k : Nat) (hw : w.length ≤ 450) (hk : 30000 ≤ k) : grilleref03_Read.f k (ba w) = some (ba (read w).1, (read w).2) := by
  unfold grilleref03_Read.f read
  rw [show (⟨#[33, 33]⟩ : ByteArray) = ba [33, 33] from rfl, begins_eq]
  simp only [Option.bind_some, size_mk, toList_mk]
  rw [extract_all, toList_mk, word2 (w.drop 2) k (by rw [List.length_drop]; omega) hk, word2 w k hw hk]
  simp only [Option.bind_some, toList_mk]
  by_cases h : pre [33, 33] w = true
  · obtain ⟨t, rfl⟩ := (pre_two w).mp h
    have hd : (33 :: 33 :: t : List UInt8).drop 2 = t := rfl
    have hl : (2 : Int) ≤ (((33 :: 33 :: t : List UInt8)).length : Int) := by simp only [List.length_cons]; omega
    rw [if_pos h, if_pos h, hd, if_pos hl]
    by_cases hc : t ∈ cores
    · have hne : ¬ t = [] := by rintro rfl; revert hc; decide
      have hw2 : word t = 33 :: 33 :: t := by unfold word; rw [if_pos hc]
      rw [if_neg hne, if_pos hw2, if_pos hc]
    · have hw2 : ¬ word t = 33 :: 33 :: t := by
        unfold word; rw [if_neg hc]
        split
        · intro e; have := congrArg List.length e; simp only [List.length_cons] at this; omega
        · intro e; cases e
      rw [if_neg hw2, if_neg hc]
      split <;> rfl
  · rw [if_neg h, if_neg h]
    by_cases ho : own w = true
    · have hc : ¬ w ∈ cores := fun hc => by rw [own_core hc] at ho; cases ho
      have hne : ¬ w = [] := by rintro rfl; cases ho
      have hw2 : word w = w := by unfold word; rw [if_neg hc, if_pos ho]
      rw [if_neg hne, if_pos hw2, if_pos ho]
    · rw [if_neg ho]
      by_cases hne : w = []
      · rw [if_pos hne]
      · have hw2 : ¬ word w = w := by
          unfold word
          rw [if_neg ho]
          split
          · intro e; have := congrArg List.length e; simp only [List.length_cons] at this; omega
          · exact fun e => hne e.symm
        rw [if_neg hne, if_neg hw2]

theorem alive (k : Nat) (hk : 30001 ≤ k) : grillelaw03_alive.f k = some true := by
  unfold grillelaw03_alive.f
  rw [show (⟨#[33, 33, 105, 110, 116]⟩ : ByteArray) = ba [33, 33, 105, 110, 116] from rfl, show (⟨#[105, 110, 116]⟩ : ByteArray) = ba bInt from rfl, show (⟨#[48, 120, 49, 70]⟩ : ByteArray) = ba [48, 120, 49, 70] from rfl,
    show (⟨#[49, 46]⟩ : ByteArray) = ba [49, 46] from rfl, show (⟨#[49, 46, 50, 46, 51]⟩ : ByteArray) = ba [49, 46, 50, 46, 51] from rfl, show (⟨#[33, 97]⟩ : ByteArray) = ba [33, 97] from rfl, show (⟨#[115, 101, 113]⟩ : ByteArray) = ba bSeq from rfl,
    show (⟨#[33, 120, 45, 49]⟩ : ByteArray) = ba [33, 120, 45, 49] from rfl, show (⟨#[102, 108, 111, 97, 116]⟩ : ByteArray) = ba bFloat from rfl, show (⟨#[49]⟩ : ByteArray) = ba [49] from rfl,
    read1, read1, resolve1 _ k (by decide) hk, resolve1 _ k (by decide) hk, resolve1 _ k (by decide) hk, word1 _ (by decide), core1, right1, fits1 _ _ k (by decide) hk]
  simp only [Option.bind_some, toList_mk]
  rw [if_pos (by decide), if_pos (by decide), if_pos (by decide), if_pos (by decide), if_pos (by decide), if_pos (by decide), if_pos (by decide), if_pos (by decide), if_pos (by decide)]
  rfl
end Go.Proofs.Ytmedojlhnpcniaa.Impl
