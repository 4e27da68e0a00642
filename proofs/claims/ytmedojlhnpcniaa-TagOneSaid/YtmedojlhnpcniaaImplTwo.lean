/- What the printed functions of tags answer (second part), as plain functions on lists of bytes; texts of at most 450 bytes, rounds enough. -/
import Derived.Test.YtmedojlhnpcniaaImpl
set_option linter.unusedSimpArgs false
namespace Go.Proofs.Ytmedojlhnpcniaa.Impl
open Go.RowKit Go.Proofs.Ytmedojlhnpcniaa.X Go.Proofs.YtmedojlhnpcniaaW.PrintWords Go.Proofs.YtmedojlhnpcniaaW.PrintLast
open Go.Proofs.Ytmedojlhnpcniaa.Bytes Go.Proofs.Ytmedojlhnpcniaa.Plain

abbrev bNull : List UInt8 := [110, 117, 108, 108]
abbrev bBool : List UInt8 := [98, 111, 111, 108]
abbrev bInt : List UInt8 := [105, 110, 116]
abbrev bFloat : List UInt8 := [102, 108, 111, 97, 116]
abbrev bStr : List UInt8 := [115, 116, 114]
abbrev bSeq : List UInt8 := [115, 101, 113]
abbrev bMap : List UInt8 := [109, 97, 112]
abbrev nulls : List (List UInt8) := [[], [126], [110, 117, 108, 108], [78, 117, 108, 108], [78, 85, 76, 76]]
abbrev bools : List (List UInt8) := [[116, 114, 117, 101], [84, 114, 117, 101], [84, 82, 85, 69], [102, 97, 108, 115, 101], [70, 97, 108, 115, 101], [70, 65, 76, 83, 69]]
abbrev nans : List (List UInt8) := [[46, 110, 97, 110], [46, 78, 97, 78], [46, 78, 65, 78]]
abbrev infs : List (List UInt8) := [[46, 105, 110, 102], [46, 73, 110, 102], [46, 73, 78, 70]]
abbrev plains : List (List UInt8) := [bNull, bBool, bInt, bFloat]
abbrev cores : List (List UInt8) := [bNull, bBool, bInt, bFloat, bStr, bSeq, bMap]

def R1 (l : List UInt8) : List UInt8 := if l ∈ nulls then bNull else if l ∈ bools then bBool else if l ∈ nans then bFloat else if sgn l ∈ infs then bFloat else if whole l = true then bInt else if real l = true then bFloat else bStr
def flt (l : List UInt8) : Bool := decide (sgn l ∈ infs) || decide (l ∈ nans) || float2 l
def R2 (l : List UInt8) : List UInt8 := if l ∈ nulls then bNull else if l ∈ bools then bBool else if whole2 l = true then bInt else if flt l = true then bFloat else bStr

theorem resolve1 (l : List UInt8) (k : Nat) (hl : l.length ≤ 450) (hk : 30001 ≤ k) : tag_Resolve.f k (ba l) = some (ba (R1 l)) := by
  unfold tag_Resolve.f R1
  rw [sign_eq, whole_some l k hl (by omega), real_some l k hl (by omega)]
  simp only [toList_mk, Option.bind_some]
  by_cases h1 : l ∈ nulls
  · rw [if_pos h1]
    simp only [nulls, List.mem_cons, List.not_mem_nil, or_false] at h1
    rcases h1 with rfl | rfl | rfl | rfl | rfl <;> rfl
  rw [if_neg h1]
  simp only [nulls, List.mem_cons, List.not_mem_nil, or_false, not_or] at h1
  obtain ⟨a1, a2, a3, a4, a5⟩ := h1
  rw [if_neg a1, if_neg a2, if_neg a3, if_neg a4, if_neg a5]
  by_cases h2 : l ∈ bools
  · rw [if_pos h2]
    simp only [bools, List.mem_cons, List.not_mem_nil, or_false] at h2
    rcases h2 with rfl | rfl | rfl | rfl | rfl | rfl <;> rfl
  rw [if_neg h2]
  simp only [bools, List.mem_cons, List.not_mem_nil, or_false, not_or] at h2
  obtain ⟨a1, a2, a3, a4, a5, a6⟩ := h2
  rw [if_neg a1, if_neg a2, if_neg a3, if_neg a4, if_neg a5, if_neg a6]
  by_cases h3 : l ∈ nans
  · rw [if_pos h3]
    simp only [nans, List.mem_cons, List.not_mem_nil, or_false] at h3
    rcases h3 with rfl | rfl | rfl <;> rfl
  rw [if_neg h3]
  simp only [nans, List.mem_cons, List.not_mem_nil, or_false, not_or] at h3
  obtain ⟨a1, a2, a3⟩ := h3
  rw [if_neg a1, if_neg a2, if_neg a3]
  by_cases h4 : sgn l ∈ infs
  · rw [if_pos h4]
    simp only [infs, List.mem_cons, List.not_mem_nil, or_false] at h4
    rcases h4 with h | h | h <;> rw [h] <;> rfl
  rw [if_neg h4]
  simp only [infs, List.mem_cons, List.not_mem_nil, or_false, not_or] at h4
  obtain ⟨a1, a2, a3⟩ := h4
  rw [if_neg a1, if_neg a2, if_neg a3]
  cases whole l <;> cases real l <;> rfl

theorem float_join (l : List UInt8) (b : Bool) (k : Nat) (hl : l.length ≤ 450) (hk : 30001 ≤ k) : grilleref03_float.j0 k (ba l) b = some (b || float2 l) := by
  obtain ⟨k, rfl⟩ : ∃ m, k = m + 1 := ⟨k - 1, by omega⟩
  simp only [grilleref03_float.j0]
  cases b with
  | true => rfl
  | false =>
    rw [if_neg (by decide), bare_eq]
    simp only [Option.bind_some, Bool.false_or]
    have hsl := sgn_le l
    unfold float2
    generalize sgn l = t at *
    rw [find_eq t 101 69 _ k e_iff (by omega) (by omega)]
    simp only [Option.bind_some, size_mk]
    have hs := (split_at (fun c => !isE c) t).1
    generalize t.takeWhile (fun c => !isE c) = h at *
    generalize t.dropWhile (fun c => !isE c) = r at *
    subst hs
    rw [List.length_append] at hsl
    rw [List.length_append]
    have t1 : (⟨#[48, 49, 50, 51, 52, 53, 54, 55, 56, 57]⟩ : ByteArray) = ba ten := rfl
    rw [t1]
    have q3 : (0 : Int) ≤ (h.length : Int) := by omega
    have q2 : (h.length : Int) ≤ ((h.length + r.length : Nat) : Int) := by omega
    have e2 : (ba (h ++ r)).extract 0 h.length = ba h := by rw [extract_mk]; simp
    rw [Int.toNat_natCast, e2, fraction_eq h k (by omega) (by omega)]
    simp only [Option.bind_some]
    cases r with
    | nil =>
      have hne : ¬ ((h.length : Int) < ((h.length + ([] : List UInt8).length : Nat) : Int)) := by simp
      rw [if_neg hne, if_pos q3, if_pos q2, List.append_nil]
    | cons c u =>
      have hlen : (c :: u).length = u.length + 1 := rfl
      have hlt : ((h.length : Int) < ((h.length + (c :: u).length : Nat) : Int)) := by rw [hlen]; omega
      have q0 : (0 : Int) ≤ ((h.length + 1 : Nat) : Int) := by omega
      have q1 : ((h.length + 1 : Nat) : Int) ≤ ((h.length + (c :: u).length : Nat) : Int) := by rw [hlen]; omega
      have e1 : (ba (h ++ c :: u)).extract (h.length + 1) (h.length + (c :: u).length) = ba u := by
        have := extract_all (h ++ c :: u) (h.length + 1)
        rw [List.length_append] at this
        rw [this]
        congr 1; congr 1
        rw [List.drop_append]; simp
      have hu := sgn_le u
      rw [if_pos hlt, wrap64_nat _ (by omega), if_pos q0, if_pos q1, Int.toNat_natCast, e1, bare_eq]
      simp only [Option.bind_some]
      rw [only_eq (sgn u) ten k (by rw [hlen] at hsl; omega) (by decide) (by omega)]
      simp only [Option.bind_some]
      rw [if_pos q3, if_pos q2]
      cases only (sgn u) ten <;> simp

theorem float_some (l : List UInt8) (k : Nat) (hl : l.length ≤ 450) (hk : 30001 ≤ k) : grilleref03_float.f k (ba l) = some (flt l) := by
  unfold grilleref03_float.f flt
  rw [bare_eq]
  simp only [Option.bind_some]
  rw [show ([(⟨#[46, 105, 110, 102]⟩ : ByteArray), (⟨#[46, 73, 110, 102]⟩ : ByteArray), (⟨#[46, 73, 78, 70]⟩ : ByteArray)] : List ByteArray) = infs.map ba from rfl, show ([(⟨#[46, 110, 97, 110]⟩ : ByteArray), (⟨#[46, 78, 97, 78]⟩ : ByteArray), (⟨#[46, 78, 65, 78]⟩ : ByteArray)] : List ByteArray) = nans.map ba from rfl]
  rw [one_eq (sgn l) infs k (by decide) (by omega), one_eq l nans k (by decide) (by omega)]
  simp only [Option.bind_some]
  rw [float_join l _ k hl hk, float_join l _ k hl hk]
  by_cases h : sgn l ∈ infs
  · rw [if_pos (decide_eq_true h)]; simp [h]
  · rw [if_neg (by rw [decide_eq_false h]; decide)]; simp only [decide_eq_false h, Bool.false_or]

theorem whole2_some (l : List UInt8) (k : Nat) (hl : l.length ≤ 450) (hk : 30000 ≤ k) : grilleref03_whole.f k (ba l) = some (whole2 l) := by
  unfold grilleref03_whole.f whole2
  have hs := sgn_le l
  rw [bare_eq, show (⟨#[48, 111]⟩ : ByteArray) = ba [48, 111] from rfl, show (⟨#[48, 120]⟩ : ByteArray) = ba [48, 120] from rfl, begins_eq, begins_eq,
    show (⟨#[48, 49, 50, 51, 52, 53, 54, 55, 56, 57]⟩ : ByteArray) = ba ten from rfl, show (⟨#[48, 49, 50, 51, 52, 53, 54, 55]⟩ : ByteArray) = ba eight from rfl,
    show (⟨#[48, 49, 50, 51, 52, 53, 54, 55, 56, 57, 97, 98, 99, 100, 101, 102, 65, 66, 67, 68, 69, 70]⟩ : ByteArray) = ba hex from rfl]
  simp only [Option.bind_some, size_mk]
  rw [only_eq (sgn l) ten k (by omega) (by decide) hk, extract_all, only_eq (l.drop 2) eight k (by rw [List.length_drop]; omega) (by decide) hk, only_eq (l.drop 2) hex k (by rw [List.length_drop]; omega) (by decide) hk]
  simp only [Option.bind_some]
  by_cases h0 : only (sgn l) ten = true
  · rw [if_pos h0, if_pos h0]
  · rw [if_neg h0, if_neg h0]
    by_cases h1 : pre [48, 111] l = true
    · have : (2 : Int) ≤ (l.length : Int) := by have := pre_le h1; simp at this; omega
      rw [if_pos h1, if_pos h1, if_pos this]
    · rw [if_neg h1, if_neg h1]
      by_cases h2 : pre [48, 120] l = true
      · have : (2 : Int) ≤ (l.length : Int) := by have := pre_le h2; simp at this; omega
        rw [if_pos h2, if_pos h2, if_pos this]
      · rw [if_neg h2, if_neg h2]

theorem resolve2 (l : List UInt8) (k : Nat) (hl : l.length ≤ 450) (hk : 30001 ≤ k) : grilleref03_Resolve.f k (ba l) = some (ba (R2 l)) := by
  unfold grilleref03_Resolve.f R2
  rw [show ([(⟨#[]⟩ : ByteArray), (⟨#[126]⟩ : ByteArray), (⟨#[110, 117, 108, 108]⟩ : ByteArray), (⟨#[78, 117, 108, 108]⟩ : ByteArray), (⟨#[78, 85, 76, 76]⟩ : ByteArray)] : List ByteArray) = nulls.map ba from rfl,
    show ([(⟨#[116, 114, 117, 101]⟩ : ByteArray), (⟨#[84, 114, 117, 101]⟩ : ByteArray), (⟨#[84, 82, 85, 69]⟩ : ByteArray), (⟨#[102, 97, 108, 115, 101]⟩ : ByteArray), (⟨#[70, 97, 108, 115, 101]⟩ : ByteArray), (⟨#[70, 65, 76, 83, 69]⟩ : ByteArray)] : List ByteArray) = bools.map ba from rfl]
  rw [one_eq l nulls k (by decide) (by omega), one_eq l bools k (by decide) (by omega), whole2_some l k hl (by omega), float_some l k hl hk]
  simp only [Option.bind_some]
  by_cases h1 : l ∈ nulls
  · rw [if_pos (decide_eq_true h1), if_pos h1]
  · rw [if_neg (by rw [decide_eq_false h1]; decide), if_neg h1]
    by_cases h2 : l ∈ bools
    · rw [if_pos (decide_eq_true h2), if_pos h2]
    · rw [if_neg (by rw [decide_eq_false h2]; decide), if_neg h2]
      cases whole2 l <;> cases flt l <;> rfl

theorem whole2_nan (l : List UInt8) (h : l ∈ nans ∨ sgn l ∈ infs) : whole2 l = false := by
  rcases h with h | h
  · simp only [nans, List.mem_cons, List.not_mem_nil, or_false] at h
    rcases h with rfl | rfl | rfl <;> decide
  · have hd : ∃ t, sgn l = 46 :: t := by
      simp only [infs, List.mem_cons, List.not_mem_nil, or_false] at h
      rcases h with h | h | h <;> exact ⟨_, h⟩
    obtain ⟨t, ht⟩ := hd
    have h1 : only (sgn l) ten = false := by rw [ht]; unfold only; rw [List.all_cons]; rfl
    have hp : ∀ b, pre [48, b] l = false := by
      intro b
      cases l with
      | nil => simp [sgn] at ht
      | cons c u =>
        have hc : ¬ c = 48 := by
          rintro rfl; unfold sgn at ht; simp at ht
        unfold pre; simp [List.isPrefixOf]; intro e; exact absurd e.symm hc
    unfold whole2
    rw [h1, hp, hp]; rfl

theorem R_eq (l : List UInt8) : R1 l = R2 l := by
  unfold R1 R2 flt
  rw [whole_eq, real_eq]
  by_cases h1 : l ∈ nulls
  · rw [if_pos h1, if_pos h1]
  rw [if_neg h1, if_neg h1]
  by_cases h2 : l ∈ bools
  · rw [if_pos h2, if_pos h2]
  rw [if_neg h2, if_neg h2]
  by_cases h3 : l ∈ nans
  · rw [if_pos h3, whole2_nan l (.inl h3), if_neg (by decide), if_pos (by simp only [decide_eq_true h3, Bool.or_true, Bool.true_or])]
  rw [if_neg h3]
  by_cases h4 : sgn l ∈ infs
  · rw [if_pos h4, whole2_nan l (.inr h4), if_neg (by decide), if_pos (by simp only [decide_eq_true h4, Bool.true_or])]
  rw [if_neg h4, decide_eq_false h3, decide_eq_false h4]
  simp only [Bool.false_or]

theorem R1_one (l : List UInt8) : R1 l ∈ [bNull, bBool, bInt, bFloat, bStr] := by
  unfold R1
  repeat' split
  all_goals decide
end Go.Proofs.Ytmedojlhnpcniaa.Impl
