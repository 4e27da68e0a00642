/- What text.Encode tells, in plain lists. -/
import Derived.Test.YtdbkefgdeenjoaaDoorEv
import Derived.Test.YtdbkefgdeenjoaaDoorX10
namespace Go.Proofs.YtdbkefgdeenjoaaDoor.Plain
set_option linter.unusedVariables false
set_option linter.unusedSimpArgs false
open Go.RowKit Go.Proofs.YtdbkefgdeenjoaaDoor.X Go.Proofs.YtdbkefgdeenjoaaDoorW.PrintWords Go.Proofs.YtdbkefgdeenjoaaDoorW.PrintLast Go.Proofs.YtdbkefgdeenjoaaDoorW.PrintMore
def u2 (r : Int) (big : Bool) : List Int := if big then [r / 256 % 256, r % 256] else [r % 256, r / 256 % 256]
def u4 (r : Int) (big : Bool) : List Int := if big then [r / 16777216 % 256, r / 65536 % 256, r / 256 % 256, r % 256] else [r % 256, r / 256 % 256, r / 65536 % 256, r / 16777216 % 256]
def enc1 (size : Int) (big : Bool) (r : Int) : List Int :=
  if size = 1 then Lib.encodeRuneZ r else if size = 2 then (if 65536 ≤ r then u2 (55296 + (r - 65536) / 1024) big ++ u2 (56320 + (r - 65536) % 1024) big else u2 r big) else u4 r big
theorem w64 (n : Int) (h0 : -9223372036854775808 ≤ n) (h1 : n ≤ 9223372036854775807) : wrap64 n = n := by unfold wrap64; omega
theorem unit2 (lb : List Int) (r : Int) (big : Bool) (h : lb.length + 8 ≤ 140737488355328) : text_unit.f 5 lb r 2 big = some (lb ++ u2 r big) := by
  have h1 : lb.length < 140737488355328 := by omega
  have h2 : lb.length + 1 < 140737488355328 := by omega
  cases big <;> simp [text_unit.f, text_unit.l0, shr, wrap64, u2, h1, h2, IntKind.bits]
theorem unit4 (lb : List Int) (r : Int) (big : Bool) (h : lb.length + 8 ≤ 140737488355328) : text_unit.f 5 lb r 4 big = some (lb ++ u4 r big) := by
  have h1 : lb.length < 140737488355328 := by omega
  have h2 : lb.length + 1 < 140737488355328 := by omega
  have h3 : lb.length + 2 < 140737488355328 := by omega
  have h4 : lb.length + 3 < 140737488355328 := by omega
  cases big <;> simp [text_unit.f, text_unit.l0, shr, wrap64, u4, h1, h2, h3, h4, IntKind.bits]
theorem and1023 (x : Int) (h0 : 0 ≤ x) (h1 : x < 2147483648) : Go.bits .and .i32 x 1023 = x % 1024 := by
  obtain ⟨n, rfl⟩ : ∃ n : Nat, x = (n : Int) := ⟨x.toNat, by omega⟩
  have hn : n < 2147483648 := by omega
  have e : n &&& 1023 = n % 1024 := Nat.and_two_pow_sub_one_eq_mod n 10
  unfold Go.bits
  have hx : (BitVec.ofInt IntKind.i32.bits (n : Int) &&& BitVec.ofInt IntKind.i32.bits 1023).toNat = n &&& 1023 := by
    have h2 : n % 4294967296 = n := Nat.mod_eq_of_lt (by omega)
    show (BitVec.ofInt 32 (n : Int) &&& BitVec.ofInt 32 1023).toNat = n &&& 1023
    rw [BitVec.toNat_and]
    have h3 : (BitVec.ofInt 32 (n : Int)).toNat = n := by simp [BitVec.toNat_ofInt]; omega
    have h4 : (BitVec.ofInt 32 1023).toNat = 1023 := by decide
    rw [h3, h4]
  simp only [hx, e]
  rw [i32_w]
  unfold wrap32
  omega
theorem put_eq (lb : List Int) (r size : Int) (big : Bool) (hs : size = 1 ∨ size = 2 ∨ size = 4) (h0 : 0 ≤ r) (h1 : r ≤ 1114111) (h : lb.length + 16 ≤ 140737488355328) : text_Encode.put lb r size big = some (lb ++ enc1 size big r) := by
  unfold text_Encode.put enc1
  rcases hs with rfl | rfl | rfl
  · rw [if_pos rfl, if_pos rfl, if_pos (by omega)]
  · have a1 : ¬ (2 : Int) = 1 := by decide
    rw [if_neg a1, if_pos (rfl : (2 : Int) = 2), if_neg a1, if_pos (rfl : (2 : Int) = 2)]
    by_cases hr : 65536 ≤ r
    · have e1 : wrap32 (r - 65536) = r - 65536 := by unfold wrap32; omega
      have e2 : wrap32 (55296 + (r - 65536) / 1024) = 55296 + (r - 65536) / 1024 := by unfold wrap32; omega
      have e3 : wrap32 (56320 + (r - 65536) % 1024) = 56320 + (r - 65536) % 1024 := by unfold wrap32; omega
      rw [if_pos hr, if_pos hr, e1, e2, unit2 _ _ _ (by omega), and1023 _ (by omega) (by omega), e3]
      show text_unit.f 5 (lb ++ u2 _ big) _ 2 big = _
      rw [unit2 _ _ _ (by simp [u2]; split <;> simp <;> omega), List.append_assoc]
    · rw [if_neg hr, if_neg hr, unit2 _ _ _ (by omega)]
  · have a1 : ¬ (4 : Int) = 1 := by decide
    have a2 : ¬ (4 : Int) = 2 := by decide
    rw [if_neg a1, if_neg a2, if_neg a1, if_neg a2, unit4 _ _ _ (by omega)]
theorem enc1_length (size : Int) (big : Bool) (r : Int) : (enc1 size big r).length ≤ 4 := by
  unfold enc1 u2 u4
  have := (Lib.encodeRuneZ_length r).2
  repeat' split
  all_goals simp <;> omega
def ok (r : Int) : Prop := 0 ≤ r ∧ r ≤ 1114111 ∧ ¬ (55296 ≤ r ∧ r ≤ 57343)
instance (r : Int) : Decidable (ok r) := by unfold ok; infer_instance
theorem valid_eq (r : Int) : utf8_ValidRune.f r = some (decide (ok r)) := by
  unfold utf8_ValidRune.f ok
  repeat' split
  all_goals (simp only [Option.some.injEq]; symm; simp; omega)
theorem go_eq (size : Int) (big : Bool) (hs : size = 1 ∨ size = 2 ∨ size = 4) : ∀ (l b : List Int), b.length + 4 * l.length + 16 ≤ 140737488355328 →
    text_Encode.go size big l b = some (if ∀ r ∈ l, ok r then (b ++ l.flatMap (enc1 size big), 0) else ([], 6))
  | [], b, _ => by simp [text_Encode.go]
  | r :: t, b, h => by
    simp only [List.length_cons] at h
    unfold text_Encode.go
    rw [valid_eq]
    simp only [Option.bind_some]
    by_cases hr : ok r
    · rw [if_pos (by simp [hr]), put_eq b r size big hs hr.1 hr.2.1 (by omega)]
      simp only [Option.bind_some]
      rw [go_eq size big hs t _ (by have := enc1_length size big r; rw [List.length_append]; omega)]
      by_cases ht : ∀ r ∈ t, ok r
      · rw [if_pos ht, if_pos (by simpa [hr] using ht)]
        simp
      · rw [if_neg ht, if_neg (by simpa [hr] using ht)]
    · rw [if_neg (by simp [hr]), if_neg (by simp [hr])]
def sizeOf (code : Int) : Int := if code = 2 ∨ code = 1 then 2 else if code = 4 ∨ code = 3 then 4 else 1
def bigOf (code : Int) : Bool := decide (code = 2 ∨ code = 4)
theorem wide_eq (code : Int) : text_wide.f code = some (sizeOf code, bigOf code) := by
  unfold text_wide.f sizeOf bigOf
  repeat' split
  all_goals simp_all
/-- The bytes of characters in a code, with their mark. -/
def encode (code : Int) (l : List Int) : List Int := (65279 :: l).flatMap (enc1 (sizeOf code) (bigOf code))
theorem sizes (code : Int) : sizeOf code = 1 ∨ sizeOf code = 2 ∨ sizeOf code = 4 := by
  unfold sizeOf
  split
  · simp
  · split <;> simp
theorem encode_eq (l : List Int) (code : Int) (h : l.length ≤ 4294967296) : text_Encode.f l code = some (if code < 0 ∨ 4 < code then ([], 2) else if ∀ r ∈ l, ok r then (encode code l, 0) else ([], 6)) := by
  unfold text_Encode.f
  by_cases h0 : code < 0
  · rw [if_pos h0, if_pos (.inl h0)]
  rw [if_neg h0]
  by_cases h4 : 4 < code
  · rw [if_pos h4, if_pos (.inr h4)]
  rw [if_neg h4, if_pos h, if_neg (by omega), wide_eq]
  simp only [Option.bind_some]
  rw [put_eq _ _ _ _ (sizes code) (by decide) (by decide) (by simp)]
  simp only [Option.bind_some, List.nil_append]
  rw [go_eq _ _ (sizes code) _ _ (by have := enc1_length (sizeOf code) (bigOf code) 65279; omega)]
  simp [encode]
end Go.Proofs.YtdbkefgdeenjoaaDoor.Plain
