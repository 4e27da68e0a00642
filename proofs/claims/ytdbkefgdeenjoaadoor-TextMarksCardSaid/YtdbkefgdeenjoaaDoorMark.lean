/- What text.Detect tells of what text.Encode made. -/
import Derived.Test.YtdbkefgdeenjoaaDoorEnc
import Derived.Test.YtdbkefgdeenjoaaDoorDet
namespace Go.Proofs.YtdbkefgdeenjoaaDoor.Plain
set_option linter.unusedVariables false
set_option linter.unusedSimpArgs false
open Go.RowKit Go.Proofs.YtdbkefgdeenjoaaDoor.X Go.Proofs.YtdbkefgdeenjoaaDoorW.PrintWords Go.Proofs.YtdbkefgdeenjoaaDoorW.PrintLast Go.Proofs.YtdbkefgdeenjoaaDoorW.PrintMore
/-- The mark of a code. -/
def mark (code : Int) : List Int := if code = 0 then [239, 187, 191] else if code = 1 then [255, 254] else if code = 2 then [254, 255] else if code = 3 then [255, 254, 0, 0] else [0, 0, 254, 255]
def body (code : Int) (l : List Int) : List Int := l.flatMap (enc1 (sizeOf code) (bigOf code))
theorem encode_mark (code : Int) (l : List Int) (h0 : 0 ≤ code) (h4 : code ≤ 4) : encode code l = mark code ++ body code l := by
  unfold encode body
  rw [List.flatMap_cons]
  congr 1
  have : code = 0 ∨ code = 1 ∨ code = 2 ∨ code = 3 ∨ code = 4 := by omega
  rcases this with rfl | rfl | rfl | rfl | rfl <;> decide
theorem ok_first (r : Int) (h : ok r) (h0 : r ≠ 0) (t : List Int) : pre [0, 0] (enc1 2 false r ++ t) = false := by
  obtain ⟨a, b, c⟩ := h
  unfold enc1
  rw [if_neg (by decide), if_pos rfl]
  by_cases hr : 65536 ≤ r
  · rw [if_pos hr]
    simp only [u2, pre, List.cons_append, List.nil_append, Bool.false_eq_true, if_false]
    have : ¬ (55296 + (r - 65536) / 1024) / 256 % 256 = 0 := by omega
    simp [this]
  · rw [if_neg hr]
    simp only [u2, pre, List.cons_append, List.nil_append, Bool.false_eq_true, if_false]
    have : ¬ (r % 256 = 0 ∧ r / 256 % 256 = 0) := by omega
    simp only [Bool.and_true]
    rw [← Bool.not_eq_true]
    simpa using this
theorem body_first (l : List Int) (h : ∀ r ∈ l, ok r) (hz : l.head? ≠ some 0) : pre [0, 0] (body 1 l) = false := by
  cases l with
  | nil => rfl
  | cons r t =>
    have e : body 1 (r :: t) = enc1 2 false r ++ body 1 t := by unfold body; rw [List.flatMap_cons]; rfl
    rw [e]
    exact ok_first r (h r (by simp)) (by simpa using hz) _
def markLen (code : Int) : Int := if code = 0 then 3 else if code = 1 ∨ code = 2 then 2 else 4
theorem detect_encode (code : Int) (l : List Int) (h0 : 0 ≤ code) (h4 : code ≤ 4) (h : ∀ r ∈ l, ok r) (hz : l.head? ≠ some 0) : detect (encode code l) = (code, markLen code) := by
  rw [encode_mark code l h0 h4]
  have : code = 0 ∨ code = 1 ∨ code = 2 ∨ code = 3 ∨ code = 4 := by omega
  rcases this with rfl | rfl | rfl | rfl | rfl
  · generalize body 0 l = b
    simp [mark, markLen, detect, detect1, detect2, detect3, pre, nz, rd]
  · have hb := body_first l h hz
    generalize body 1 l = b at hb
    simp [mark, markLen, detect, detect1, detect2, detect3, pre, nz, rd, hb]
  · generalize body 2 l = b
    simp [mark, markLen, detect, detect1, detect2, detect3, pre, nz, rd]
  · generalize body 3 l = b
    simp [mark, markLen, detect, detect1, detect2, detect3, pre, nz, rd]
  · generalize body 4 l = b
    simp [mark, markLen, detect, detect1, detect2, detect3, pre, nz, rd]
theorem mark_length (code : Int) (h0 : 0 ≤ code) (h4 : code ≤ 4) : ((mark code).length : Int) = markLen code := by
  have : code = 0 ∨ code = 1 ∨ code = 2 ∨ code = 3 ∨ code = 4 := by omega
  rcases this with rfl | rfl | rfl | rfl | rfl <;> decide
theorem head_rd (l : List Int) (h : ¬ (rd l 0 = 0 ∧ 0 < l.length)) : l.head? ≠ some 0 := by
  cases l with
  | nil => simp
  | cons a t => simpa [rd] using h
end Go.Proofs.YtdbkefgdeenjoaaDoor.Plain
