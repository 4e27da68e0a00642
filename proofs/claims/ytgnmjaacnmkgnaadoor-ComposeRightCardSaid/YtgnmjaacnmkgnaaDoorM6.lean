/- Words and walks that the row of ComposeRight needs: printed by programs, and plain laws. -/
import Derived.Test.YtgnmjaacnmkgnaaDoorM5
import Derived.Test.YtgnmjaacnmkgnaaDoorM4
namespace Go.Proofs.YtgnmjaacnmkgnaaDoor.Bytes
end Go.Proofs.YtgnmjaacnmkgnaaDoor.Bytes
namespace Go.Proofs.YtgnmjaacnmkgnaaDoor.T
end Go.Proofs.YtgnmjaacnmkgnaaDoor.T
namespace Go.Proofs.YtgnmjaacnmkgnaaDoorW.PrintWords
end Go.Proofs.YtgnmjaacnmkgnaaDoorW.PrintWords
namespace Go.Proofs.YtgnmjaacnmkgnaaDoorW.PrintLast
end Go.Proofs.YtgnmjaacnmkgnaaDoorW.PrintLast
namespace Go.Proofs.YtgnmjaacnmkgnaaDoor.Plain
end Go.Proofs.YtgnmjaacnmkgnaaDoor.Plain
namespace Go.Proofs.YtgnmjaacnmkgnaaDoorW.PrintMore
end Go.Proofs.YtgnmjaacnmkgnaaDoorW.PrintMore
section
namespace Go.Proofs.YtgnmjaacnmkgnaaDoor.Plain
open Go.Proofs.YtgnmjaacnmkgnaaDoor.Bytes
def val (c : UInt8) : Int := if 97 ≤ c.toNat ∧ c.toNat ≤ 102 then c.toNat - 87 else if 65 ≤ c.toNat ∧ c.toNat ≤ 70 then c.toNat - 55 else if 48 ≤ c.toNat ∧ c.toNat ≤ 57 then c.toNat - 48 else 16
def dig (b : Int) (c : UInt8) : Bool := decide (val c < b)
def sgn (l : List UInt8) : List UInt8 := match l with
  | [] => []
  | c :: t => if c = 43 ∨ c = 45 then t else c :: t
def only (l of : List UInt8) : Bool := l.all of.contains && !l.isEmpty
def alld (b : Int) (l : List UInt8) : Bool := l.all (dig b) && !l.isEmpty
def pre (p l : List UInt8) : Bool := p.isPrefixOf l
def whole (l : List UInt8) : Bool := if pre [48, 111] l then alld 8 (l.drop 2) else if pre [48, 120] l then alld 16 (l.drop 2) else alld 10 (sgn l)
def isE (c : UInt8) : Bool := c == 101 || c == 69
def tail2 (many : Nat) (r : List UInt8) : Bool := if many = 0 then false else match r with
  | [] => true
  | c :: u => isE c && alld 10 (sgn u)
def real (l : List UInt8) : Bool :=
  let t := sgn l
  let a := t.takeWhile (dig 10)
  match t.dropWhile (dig 10) with
  | [] => tail2 a.length []
  | c :: u => if c = 46 then tail2 (a.length + (u.takeWhile (dig 10)).length) (u.dropWhile (dig 10)) else tail2 a.length (c :: u)
theorem split_at (p : UInt8 → Bool) (l : List UInt8) : l = l.takeWhile p ++ l.dropWhile p ∧ (∀ c ∈ l.takeWhile p, p c = true) ∧ ∀ c u, l.dropWhile p = c :: u → p c = false := by
  refine ⟨(List.takeWhile_append_dropWhile).symm, ?_, ?_⟩
  · intro c hc; induction l with
    | nil => simp at hc
    | cons a t ih =>
      rw [List.takeWhile_cons] at hc
      split at hc
      · rcases List.mem_cons.mp hc with rfl | h
        · assumption
        · exact ih h
      · simp at hc
  · intro c u h; induction l with
    | nil => simp at h
    | cons a t ih =>
      rw [List.dropWhile_cons] at h
      split at h
      · exact ih h
      · rename_i hn; injection h with h1 h2; subst h1; exact Bool.eq_false_iff.mpr hn
end Go.Proofs.YtgnmjaacnmkgnaaDoor.Plain
end
section
set_option linter.unusedSimpArgs false
namespace Go.Proofs.YtgnmjaacnmkgnaaDoor.Impl
open Go.RowKit Go.Proofs.YtgnmjaacnmkgnaaDoor.T Go.Proofs.YtgnmjaacnmkgnaaDoorW.PrintWords Go.Proofs.YtgnmjaacnmkgnaaDoorW.PrintLast
open Go.Proofs.YtgnmjaacnmkgnaaDoor.Bytes Go.Proofs.YtgnmjaacnmkgnaaDoor.Plain
abbrev ba (l : List UInt8) : ByteArray := ⟨l.toArray⟩
theorem ofNat_int (c : UInt8) (n : Nat) (h : n < 256) : ((c.toNat : Int) = (n : Int)) ↔ c = UInt8.ofNat n := by
  constructor
  · intro e; apply UInt8.toNat_inj.mp; rw [UInt8.toNat_ofNat']; omega
  · intro e; rw [e, UInt8.toNat_ofNat']; omega
theorem bt_zero (c : UInt8) (t : List UInt8) : bt (ba (c :: t)) 0 = (c.toNat : Int) := bt_mk _ _
theorem sign_eq (l : List UInt8) : tag_sign.f (ba l) = some (ba (sgn l)) := by
  unfold tag_sign.f
  rw [toList_mk]
  cases l with
  | nil => rfl
  | cons c t =>
    have h43 : ((c.toNat : Int) = 43) ↔ c = 43 := ofNat_int c 43 (by decide)
    have h45 : ((c.toNat : Int) = 45) ↔ c = 45 := ofNat_int c 45 (by decide)
    have he : (ba (c :: t)).extract 1 (c :: t).length = ba t := extract_all _ _
    have p0 : (0 : Int) < ((c :: t).length : Int) := by simp only [List.length_cons]; omega
    have p1 : (1 : Int) ≤ ((c :: t).length : Int) := by simp only [List.length_cons]; omega
    rw [if_neg (by simp), size_mk, if_pos p0, bt_zero, he, if_pos p1]
    unfold sgn
    simp only [h43, h45]
    by_cases h1 : c = 43
    · simp [h1]
    · by_cases h2 : c = 45 <;> simp [h1, h2]
theorem pre_take (p l : List UInt8) : pre p l = (l.take p.length == p) := by
  unfold pre
  rw [Bool.eq_iff_iff, List.isPrefixOf_iff_prefix, List.prefix_iff_eq_take, beq_iff_eq]
  exact ⟨fun h => h.symm, fun h => h.symm⟩
theorem has_eq (l p : List UInt8) : stringslite_HasPrefix.f (ba l) (ba p) = some (pre p l) := by
  unfold stringslite_HasPrefix.f
  simp only [size_mk]
  by_cases h : p.length ≤ l.length
  · rw [if_pos (by omega), if_pos (by omega), if_pos (by omega), extract_mk, toList_mk, toList_mk, pre_take]
    simp
  · rw [if_neg (by omega)]
    have : pre p l = false := by
      rw [pre_take, beq_eq_false_iff_ne]; intro e
      have := congrArg List.length e; rw [List.length_take] at this; omega
    rw [this]
theorem pre_le {p l : List UInt8} (h : pre p l = true) : p.length ≤ l.length := by
  unfold pre at h; exact (List.isPrefixOf_iff_prefix.mp h).length_le
theorem cut_eq (l p : List UInt8) : strings_CutPrefix.f (ba l) (ba p) = some (if pre p l then (ba (l.drop p.length), true) else (ba l, false)) := by
  unfold strings_CutPrefix.f stringslite_CutPrefix.f
  rw [has_eq]
  simp only [Option.bind_some, size_mk]
  by_cases h : pre p l = true
  · have := pre_le h
    rw [if_pos h, if_pos (by omega), if_pos (by omega), if_pos h, Int.toNat_natCast, extract_all]
    rfl
  · rw [if_neg h, if_neg h]; rfl
theorem value_eq (c : UInt8) (k : Nat) (hk : 2 ≤ k) : tag_value.f k (c.toNat : Int) = some (val c) :=
  at_rounds (g := fun k => tag_value.f k (c.toNat : Int)) (fun k => tag_value.mono _ k) hk (all_u8 (p := fun c => tag_value.f 2 (c.toNat : Int) = some (val c)) (by decide +kernel) c)
theorem digits_loop (l : List UInt8) (b : Int) (hl : l.length ≤ 140737488351232) (d : Nat) : ∀ (k n : Nat), n ≤ l.length → l.length - n = d → d + 3 ≤ k →
    tag_digits.l0 k (ba l) b (n : Int) = some (ba ((l.drop n).dropWhile (dig b)), ((n + ((l.drop n).takeWhile (dig b)).length : Nat) : Int)) := by
  induction d with
  | zero =>
    intro k n hn hd hk
    obtain ⟨k, rfl⟩ : ∃ m, k = m + 1 := ⟨k - 1, by omega⟩
    have hnl : n = l.length := by omega
    simp only [tag_digits.l0]
    rw [size_mk, if_neg (by omega), if_pos (by omega), if_pos (by omega), Int.toNat_natCast, extract_all, hnl, List.drop_length]
    simp
  | succ d ih =>
    intro k n hn hd hk
    obtain ⟨k, rfl⟩ : ∃ m, k = m + 1 := ⟨k - 1, by omega⟩
    have hlt : n < l.length := by omega
    simp only [tag_digits.l0]
    rw [size_mk, if_pos (by omega), if_pos (by omega), bt_nat l n hlt, value_eq _ _ (by omega)]
    simp only [Option.bind_some]
    rw [List.drop_eq_getElem_cons hlt, List.takeWhile_cons, List.dropWhile_cons]
    by_cases hv : val l[n] < b
    · have hd' : dig b l[n] = true := by unfold dig; simpa using hv
      rw [if_pos hv, wrap64_nat n (by omega), ih k (n + 1) (by omega) (by omega) (by omega), if_pos hd', if_pos hd', List.length_cons]
      congr 2; omega
    · have hd' : ¬ dig b l[n] = true := by unfold dig; simpa using hv
      rw [if_neg hv, if_pos (by omega), if_neg hd', if_neg hd', Int.toNat_natCast, extract_all, List.drop_eq_getElem_cons hlt]
      simp
theorem digits_eq (l : List UInt8) (b : Int) (k : Nat) (hl : l.length ≤ 2000) (hk : 200000 ≤ k) :
    tag_digits.f k (ba l) b = some (ba (l.dropWhile (dig b)), ((l.takeWhile (dig b)).length : Int)) := by
  have := digits_loop l b (by omega) l.length k 0 (by omega) (by omega) (by omega)
  simpa [tag_digits.f] using this
theorem drop_nil (p : UInt8 → Bool) (l : List UInt8) : (l.dropWhile p = []) ↔ l.all p = true := by
  induction l with
  | nil => simp
  | cons c t ih =>
    rw [List.dropWhile_cons, List.all_cons]
    by_cases h : p c = true
    · rw [if_pos h, ih]; simp [h]
    · rw [if_neg h]; simp [h]
theorem take_all (p : UInt8 → Bool) (l : List UInt8) (h : l.all p = true) : l.takeWhile p = l := by
  have h2 := (split_at p l).1
  rw [(drop_nil p l).mpr h, List.append_nil] at h2; exact h2.symm
theorem all_eq (l : List UInt8) (b : Int) (k : Nat) (hl : l.length ≤ 2000) (hk : 200000 ≤ k) : tag_all.f k (ba l) b = some (alld b l) := by
  unfold tag_all.f
  rw [digits_eq l b k hl hk]
  simp only [Option.bind_some, toList_mk]
  unfold alld
  by_cases h : l.all (dig b) = true
  · rw [if_pos ((drop_nil _ _).mpr h), take_all _ _ h, h]
    cases l <;> simp
  · rw [if_neg (fun e => h ((drop_nil _ _).mp e))]
    simp [h]
theorem sgn_le (l : List UInt8) : (sgn l).length ≤ l.length := by
  cases l with
  | nil => simp [sgn]
  | cons c t => show (if c = 43 ∨ c = 45 then t else c :: t).length ≤ _; split <;> simp
theorem drop_le (p : UInt8 → Bool) (l : List UInt8) : (l.dropWhile p).length ≤ l.length := (List.dropWhile_sublist p).length_le
theorem whole_some (l : List UInt8) (k : Nat) (hl : l.length ≤ 2000) (hk : 200000 ≤ k) : tag_whole.f k (ba l) = some (whole l) := by
  unfold tag_whole.f whole
  have hs := sgn_le l
  rw [show (⟨#[48, 111]⟩ : ByteArray) = ba [48, 111] from rfl, show (⟨#[48, 120]⟩ : ByteArray) = ba [48, 120] from rfl, cut_eq, cut_eq, sign_eq]
  by_cases h1 : pre [48, 111] l = true
  · rw [if_pos h1, if_pos h1]
    simp only [Option.bind_some, if_true]
    rw [all_eq _ _ _ (by rw [List.length_drop]; omega) hk]
    rfl
  · rw [if_neg h1, if_neg h1]
    simp only [Option.bind_some, if_false, Bool.false_eq_true]
    by_cases h2 : pre [48, 120] l = true
    · rw [if_pos h2, if_pos h2]
      simp only [if_true]
      rw [all_eq _ _ _ (by rw [List.length_drop]; omega) hk]
      rfl
    · rw [if_neg h2, if_neg h2]
      simp only [if_false, Bool.false_eq_true]
      rw [all_eq _ _ _ (by omega) hk]
      rfl
theorem tail_eq (r : List UInt8) (a b : Nat) (k : Nat) (ha : a ≤ 2000) (hb : b ≤ 2000) (hl : r.length ≤ 2000) (hk : 200001 ≤ k) :
    tag_real.j0 k (ba r) (a : Int) (b : Int) = some (tail2 (a + b) r) := by
  obtain ⟨k, rfl⟩ : ∃ m, k = m + 1 := ⟨k - 1, by omega⟩
  simp only [tag_real.j0]
  have hw : wrap64 ((a : Int) + (b : Int)) = ((a + b : Nat) : Int) := by unfold wrap64; omega
  rw [hw, toList_mk, size_mk]
  unfold tail2
  by_cases h0 : a + b = 0
  · rw [if_pos (by omega), if_pos h0]
  · rw [if_neg (by omega), if_neg h0]
    cases r with
    | nil => rfl
    | cons c u =>
      have h101 : ((c.toNat : Int) = 101) ↔ c = 101 := ofNat_int c 101 (by decide)
      have h69 : ((c.toNat : Int) = 69) ↔ c = 69 := ofNat_int c 69 (by decide)
      have he : (ba (c :: u)).extract 1 (c :: u).length = ba u := extract_all _ _
      have hs := sgn_le u
      have hu : (c :: u).length = u.length + 1 := rfl
      have p0 : (0 : Int) < ((c :: u).length : Int) := by simp only [List.length_cons]; omega
      have p1 : (1 : Int) ≤ ((c :: u).length : Int) := by simp only [List.length_cons]; omega
      have hsu : (sgn u).length ≤ 2000 := by rw [hu] at hl; omega
      rw [if_neg (by simp), if_pos p0, bt_zero, if_pos p1, he, sign_eq]
      simp only [Option.bind_some, h101, h69]
      rw [all_eq _ _ _ hsu (by omega)]
      simp only [Option.bind_some]
      unfold isE
      by_cases h1 : c = 101
      · simp [h1]
      · by_cases h2 : c = 69 <;> simp [h1, h2]
theorem real_some (l : List UInt8) (k : Nat) (hl : l.length ≤ 2000) (hk : 200001 ≤ k) : tag_real.f k (ba l) = some (real l) := by
  unfold tag_real.f real
  have hs := sgn_le l
  rw [sign_eq]
  simp only [Option.bind_some]
  generalize sgn l = t at *
  have h1 := (List.takeWhile_sublist (dig 10) (l := t)).length_le
  have h2 := drop_le (dig 10) t
  rw [digits_eq t 10 k (by omega) (by omega)]
  simp only [Option.bind_some]
  rw [show (⟨#[46]⟩ : ByteArray) = ba [46] from rfl, cut_eq]
  cases hd : t.dropWhile (dig 10) with
  | nil =>
    rw [if_neg (by decide)]
    simp only [Option.bind_some, Bool.false_eq_true, if_false]
    exact tail_eq [] _ 0 k (by omega) (by omega) (by simp) hk
  | cons c u =>
    rw [hd] at h2
    have hu : (c :: u).length = u.length + 1 := rfl
    have hp : pre [46] (c :: u) = (46 == c) := by unfold pre; simp [List.isPrefixOf]
    by_cases h46 : c = 46
    · subst h46
      rw [if_pos (by rw [hp]; rfl)]
      simp only [Option.bind_some, if_true, List.length_singleton, List.drop_succ_cons, List.drop_zero]
      have h3 := (List.takeWhile_sublist (dig 10) (l := u)).length_le
      have h4 := drop_le (dig 10) u
      rw [digits_eq u 10 k (by omega) (by omega)]
      simp only [Option.bind_some]
      exact tail_eq _ _ _ k (by omega) (by omega) (by omega) hk
    · rw [if_neg (by rw [hp]; simp; exact fun e => h46 e.symm)]
      simp only [Option.bind_some, Bool.false_eq_true, if_false]
      rw [if_neg h46]
      exact tail_eq (c :: u) _ 0 k (by omega) (by omega) (by omega) hk
end Go.Proofs.YtgnmjaacnmkgnaaDoor.Impl
end
section
set_option linter.unusedSimpArgs false
namespace Go.Proofs.YtgnmjaacnmkgnaaDoor.Impl
open Go.RowKit Go.Proofs.YtgnmjaacnmkgnaaDoor.T Go.Proofs.YtgnmjaacnmkgnaaDoorW.PrintWords Go.Proofs.YtgnmjaacnmkgnaaDoorW.PrintLast
open Go.Proofs.YtgnmjaacnmkgnaaDoor.Bytes Go.Proofs.YtgnmjaacnmkgnaaDoor.Plain
abbrev bNull : List UInt8 := [110, 117, 108, 108]
abbrev bBool : List UInt8 := [98, 111, 111, 108]
abbrev bInt : List UInt8 := [105, 110, 116]
abbrev bFloat : List UInt8 := [102, 108, 111, 97, 116]
abbrev bStr : List UInt8 := [115, 116, 114]
abbrev bSeq : List UInt8 := [115, 101, 113]
abbrev bMap : List UInt8 := [109, 97, 112]
abbrev nulls : List (List UInt8) := [[], [126], [110, 117, 108, 108], [78, 117, 108, 108], [78, 85, 76, 76]]
abbrev bools : List (List UInt8) := [[116, 114, 117, 101], [84, 114, 117, 101], [84, 82, 85, 69], [102, 97, 108, 115, 101], [70, 97, 108, 115, 101], [70, 65, 76, 83, 69]]
abbrev nans : List (List UInt8) := [[46, 110, 97, 110], [46, 78, 97, 78], [46, 78, 65, 78]]
abbrev infs : List (List UInt8) := [[46, 105, 110, 102], [46, 73, 110, 102], [46, 73, 78, 70]]
abbrev plains : List (List UInt8) := [bNull, bBool, bInt, bFloat]
abbrev cores : List (List UInt8) := [bNull, bBool, bInt, bFloat, bStr, bSeq, bMap]
def R1 (l : List UInt8) : List UInt8 := if l ∈ nulls then bNull else if l ∈ bools then bBool else if l ∈ nans then bFloat else if sgn l ∈ infs then bFloat else if whole l = true then bInt else if real l = true then bFloat else bStr
theorem resolve1 (l : List UInt8) (k : Nat) (hl : l.length ≤ 2000) (hk : 300001 ≤ k) : tag_Resolve.f k (ba l) = some (ba (R1 l)) := by
  unfold tag_Resolve.f R1
  rw [sign_eq, whole_some l k hl (by omega), real_some l k hl (by omega)]
  simp only [toList_mk, Option.bind_some]
  by_cases h1 : l ∈ nulls
  · rw [if_pos h1]
    simp only [nulls, List.mem_cons, List.not_mem_nil, or_false] at h1
    rcases h1 with rfl | rfl | rfl | rfl | rfl <;> rfl
  rw [if_neg h1]
  simp only [nulls, List.mem_cons, List.not_mem_nil, or_false, not_or] at h1
  obtain ⟨a1, a2, a3, a4, a5⟩ := h1
  rw [if_neg a1, if_neg a2, if_neg a3, if_neg a4, if_neg a5]
  by_cases h2 : l ∈ bools
  · rw [if_pos h2]
    simp only [bools, List.mem_cons, List.not_mem_nil, or_false] at h2
    rcases h2 with rfl | rfl | rfl | rfl | rfl | rfl <;> rfl
  rw [if_neg h2]
  simp only [bools, List.mem_cons, List.not_mem_nil, or_false, not_or] at h2
  obtain ⟨a1, a2, a3, a4, a5, a6⟩ := h2
  rw [if_neg a1, if_neg a2, if_neg a3, if_neg a4, if_neg a5, if_neg a6]
  by_cases h3 : l ∈ nans
  · rw [if_pos h3]
    simp only [nans, List.mem_cons, List.not_mem_nil, or_false] at h3
    rcases h3 with rfl | rfl | rfl <;> rfl
  rw [if_neg h3]
  simp only [nans, List.mem_cons, List.not_mem_nil, or_false, not_or] at h3
  obtain ⟨a1, a2, a3⟩ := h3
  rw [if_neg a1, if_neg a2, if_neg a3]
  by_cases h4 : sgn l ∈ infs
  · rw [if_pos h4]
    simp only [infs, List.mem_cons, List.not_mem_nil, or_false] at h4
    rcases h4 with h | h | h <;> rw [h] <;> rfl
  rw [if_neg h4]
  simp only [infs, List.mem_cons, List.not_mem_nil, or_false, not_or] at h4
  obtain ⟨a1, a2, a3⟩ := h4
  rw [if_neg a1, if_neg a2, if_neg a3]
  cases whole l <;> cases real l <;> rfl
theorem R1_one (l : List UInt8) : R1 l ∈ [bNull, bBool, bInt, bFloat, bStr] := by
  unfold R1
  repeat' split
  all_goals decide
end Go.Proofs.YtgnmjaacnmkgnaaDoor.Impl
end
section
set_option linter.unusedSimpArgs false
namespace Go.Proofs.YtgnmjaacnmkgnaaDoor.Impl
open Go.RowKit Go.Proofs.YtgnmjaacnmkgnaaDoor.T Go.Proofs.YtgnmjaacnmkgnaaDoorW.PrintWords Go.Proofs.YtgnmjaacnmkgnaaDoorW.PrintLast
open Go.Proofs.YtgnmjaacnmkgnaaDoor.Bytes Go.Proofs.YtgnmjaacnmkgnaaDoor.Plain
def names : List UInt8 := [48, 49, 50, 51, 52, 53, 54, 55, 56, 57, 97, 98, 99, 100, 101, 102, 103, 104, 105, 106, 107, 108, 109, 110, 111, 112, 113, 114, 115, 116, 117, 118, 119, 120, 121, 122, 65, 66, 67, 68, 69, 70, 71, 72, 73, 74, 75, 76, 77, 78, 79, 80, 81, 82, 83, 84, 85, 86, 87, 88, 89, 90, 45]
theorem name_byte (c : UInt8) : Own.nameByte c = names.contains c := all_u8 (p := fun c => Own.nameByte c = names.contains c) (by decide +kernel) c
def own (l : List UInt8) : Bool := pre [33] l && decide (l.length ≤ 41) && only (l.drop 1) names
theorem own1 (l : List UInt8) : tag_own.f (ba l) = some (own l) := by
  unfold tag_own.f own
  rw [show (⟨#[33]⟩ : ByteArray) = ba [33] from rfl, cut_eq]
  simp only [Option.bind_some]
  congr 1
  by_cases h : pre [33] l = true
  · rw [if_pos h, h]
    unfold tag_own.g
    dsimp only
    rw [toList_mk, size_mk, Bool.true_and, Bool.true_and, show [(33 : UInt8)].length = 1 from rfl]
    have hl := pre_le h
    have h1 : decide ((l.drop 1).length ≤ 40) = decide (l.length ≤ 41) := by
      rw [List.length_drop]; rw [Bool.eq_iff_iff]; simp
    rw [h1]
    unfold only
    rw [show (l.drop 1).all Own.nameByte = (l.drop 1).all names.contains from by congr 1; funext c; exact name_byte c]
    cases l.drop 1 <;> simp [Bool.and_comm]
  · rw [if_neg h, Bool.eq_false_iff.mpr h]
    rfl
theorem plain_some (l : List UInt8) : tag_plain.f (ba l) = some (decide (l ∈ plains)) := by
  unfold tag_plain.f
  rw [toList_mk]
  by_cases h : l ∈ plains
  · rw [decide_eq_true h]
    simp only [plains, List.mem_cons, List.not_mem_nil, or_false] at h
    rcases h with rfl | rfl | rfl | rfl <;> rfl
  · rw [decide_eq_false h]
    simp only [plains, List.mem_cons, List.not_mem_nil, or_false, not_or] at h
    obtain ⟨a1, a2, a3, a4⟩ := h
    rw [if_neg a1, if_neg a2, if_neg a3, beq_eq_false_iff_ne.mpr a4]
theorem core1 (l : List UInt8) : tag_Core.f (ba l) = some (decide (l ∈ cores)) := by
  unfold tag_Core.f
  rw [toList_mk, plain_some]
  simp only [Option.bind_some]
  by_cases h : l ∈ cores
  · rw [decide_eq_true h]
    simp only [cores, List.mem_cons, List.not_mem_nil, or_false] at h
    rcases h with rfl | rfl | rfl | rfl | rfl | rfl | rfl <;> rfl
  · rw [decide_eq_false h]
    simp only [cores, List.mem_cons, List.not_mem_nil, or_false, not_or] at h
    obtain ⟨a1, a2, a3, a4, a5, a6, a7⟩ := h
    rw [if_neg a6, if_neg a7, if_neg a5, decide_eq_false (by simp only [plains, List.mem_cons, List.not_mem_nil, or_false, not_or]; exact ⟨a1, a2, a3, a4⟩)]
def fits (t s : List UInt8) : Bool := if t ∈ plains then (if R1 s = t then true else if t = bFloat then R1 s == bInt else false) else if t = bStr then true else own t
theorem fits1 (t s : List UInt8) (k : Nat) (hs : s.length ≤ 2000) (hk : 300001 ≤ k) : tag_Fits.f k (ba t) (ba s) = some (fits t s) := by
  unfold tag_Fits.f fits
  rw [plain_some, resolve1 s k hs hk, own1]
  simp only [Option.bind_some, toList_mk]
  by_cases h : t ∈ plains
  · rw [if_pos (decide_eq_true h), if_pos h]
    by_cases h1 : R1 s = t
    · rw [if_pos h1, if_pos h1]
    · rw [if_neg h1, if_neg h1]
      by_cases h2 : t = bFloat
      · rw [if_pos h2, if_pos h2]
      · rw [if_neg h2, if_neg h2]
  · rw [if_neg (by rw [decide_eq_false h]; decide), if_neg h]
    by_cases h2 : t = bStr
    · rw [if_pos h2, if_pos h2]
    · rw [if_neg h2, if_neg h2]
def right (t : List UInt8) : Bool := decide (t ∈ cores) || own t
theorem right1 (t : List UInt8) : tag_Right.f (ba t) = some (right t) := by
  unfold tag_Right.f right
  rw [core1, own1]
  simp only [Option.bind_some]
  by_cases h : t ∈ cores
  · rw [if_pos (decide_eq_true h), decide_eq_true h]; rfl
  · rw [if_neg (by rw [decide_eq_false h]; decide), decide_eq_false h]; rfl
end Go.Proofs.YtgnmjaacnmkgnaaDoor.Impl
end
section
namespace Go.Proofs.YtgnmjaacnmkgnaaDoor.X
open Go.RowKit Go.Shelf Go.Proofs
set_option linter.unusedVariables false
set_option linter.unusedSimpArgs false
namespace Evt
def tagR (s : ByteArray) : Bool := Impl.right s.data.toList
theorem tagR_eq (s : ByteArray) : T.tag_Right.f s = some (tagR s) := by
  have := Impl.right1 s.data.toList
  have e : Impl.ba s.data.toList = s := by cases s; simp [Impl.ba]
  rw [e] at this; exact this
def plainE (x : Ev) : Bool := x.anchor.toList.isEmpty && (x.tag.toList.isEmpty && (x.text.toList.isEmpty && !x.plain))
def rightE (x : Ev) : Bool :=
  bif (decide (x.kind < 0) || decide (x.kind > 7)) || !(Lib.validD x.text.data.toList) then false
  else bif x.kind == 7 then ((T.lex_Name.g x.anchor && x.tag.toList.isEmpty) && x.text.toList.isEmpty) && !x.plain
  else bif !(isNode x.kind) then plainE x
  else bif !(x.kind == 6) && (!(x.text.toList.isEmpty) || x.plain) then false
  else (x.anchor.toList.isEmpty || T.lex_Name.g x.anchor) && (x.tag.toList.isEmpty || tagR x.tag)
end Evt
end Go.Proofs.YtgnmjaacnmkgnaaDoor.X
end
section
namespace Go.Proofs.YtgnmjaacnmkgnaaDoor.T
open Go.RowKit Go.Proofs.YtgnmjaacnmkgnaaDoorW.PrintWords Go.Proofs.YtgnmjaacnmkgnaaDoorW.PrintLast Go.Proofs.YtgnmjaacnmkgnaaDoorW.PrintMore
attribute [local go_sem] max2_int min2_int max_two min_two
set_option linter.unusedVariables false
set_option linter.unusedSimpArgs false
def compose_Tag.j0 : Nat → Bool → Int → ByteArray → ByteArray → ByteArray → Bool → Option (ByteArray × Int)
  | 0, _, _, _, _, _, _ => none
  | k + 1, x22, x138000, x138001, x138002, x138003, x138004 => if x22 = true then ((tag_Resolve.f k x138003).bind fun t142 => (some (t142, 0))) else (if x138002.toList = ([] : List UInt8) then (some ((⟨#[115, 116, 114]⟩ : ByteArray), 0)) else ((tag_Fits.f k x138002 x138003).bind fun t143 => (if t143 = true then (some (x138002, 0)) else (some ((⟨#[]⟩ : ByteArray), 14)))))
def compose_Tag.f (k : Nat) (a0_0 : Int) (a0_1 : ByteArray) (a0_2 : ByteArray) (a0_3 : ByteArray) (a0_4 : Bool) : Option (ByteArray × Int) := if a0_0 = 2 then ((compose_named.f k a0_2 (⟨#[115, 101, 113]⟩ : ByteArray)).bind fun bt138 => (some (bt138.1, bt138.2))) else (if a0_0 = 4 then ((compose_named.f k a0_2 (⟨#[109, 97, 112]⟩ : ByteArray)).bind fun bt140 => (some (bt140.1, bt140.2))) else (if a0_0 = 6 then (if a0_2.toList = ([] : List UInt8) then (compose_Tag.j0 k a0_4 a0_0 a0_1 a0_2 a0_3 a0_4) else (compose_Tag.j0 k false a0_0 a0_1 a0_2 a0_3 a0_4)) else (some ((⟨#[]⟩ : ByteArray), 5))))
set_option maxHeartbeats 8000000 in
set_option maxRecDepth 100000 in
theorem compose_Tag.calls (k : Nat) (a0_0 : Int) (a0_1 : ByteArray) (a0_2 : ByteArray) (a0_3 : ByteArray) (a0_4 : Bool) (r1 : ByteArray) (r2 : Int) (w : World) (h : compose_Tag.f k a0_0 a0_1 a0_2 a0_3 a0_4 = some (r1, r2)) :
    Calls Tryd.prog 10 #[.agg #[.int .i64 a0_0, .string a0_1, .string a0_2, .string a0_3, .bool a0_4]] w fun e w' => e = .returned (.tuple #[.string r1, .int .i64 r2]) ∧ Below w.heap.size w w' := by
  have hu30 := Tryd.underlying30
  have HB := Aside0.mk (Below.refl w.heap.size w)
  have H : (if a0_0 = 2 then ((compose_named.f k a0_2 (⟨#[115, 101, 113]⟩ : ByteArray)).bind fun bt138 => (some (bt138.1, bt138.2))) else (if a0_0 = 4 then ((compose_named.f k a0_2 (⟨#[109, 97, 112]⟩ : ByteArray)).bind fun bt140 => (some (bt140.1, bt140.2))) else (if a0_0 = 6 then (if a0_2.toList = ([] : List UInt8) then (compose_Tag.j0 k a0_4 a0_0 a0_1 a0_2 a0_3 a0_4) else (compose_Tag.j0 k false a0_0 a0_1 a0_2 a0_3 a0_4)) else (some ((⟨#[]⟩ : ByteArray), 5))))) = some (r1, r2) := h
  clear h
  by_cases c2 : a0_0 = 2
  · rw [if_pos c2] at H
    have c2b0 : (a0_0 == 2) = true := beq_iff_eq.mpr c2
    have c2b1 : (a0_0 != 2) = false := bne_eq_false_iff_eq.mpr c2
    clear c2
    replace H := Option.bind_eq_some_iff.mp H
    obtain ⟨⟨t138, t139⟩, A30, H⟩ := H
    replace H : (some (t138, t139)) = some (r1, r2) := H
    have A3 := Aside0.mk A30
    clear A30
    simp only [Option.some.injEq, Prod.mk.injEq] at H
    obtain ⟨rfl, rfl⟩ := H
    go_enter Tryd.func10, Tryd.ntmps10
    go_wp2_with (first | ((with_reducible refine gate_dst (N := 1) rfl ?_); refine box_event ?hg (N := 1) ?hd (cs := #[.int .i64 a0_0, .string a0_1, .string a0_2, .string a0_3, .bool a0_4]) (t := 30) ?hr ?_; (case hd => rfl); (case hg => rfl); (case hr => first | (go_simp; done) | (go_simp; rfl)); intro gb137 hg w4 hbox hb; have n0_ := Aside0.mk (below_step (by repeat (first | (with_reducible first | exact HB.out | apply below_alloc | apply pw_below_drewN | apply below_drew1) | exact HB.out)) hb); have n1_ := Aside0.mk (hbox); have n2_ := Aside0.mk ((by rw [hg]; exact (below_size (by repeat (first | (with_reducible first | exact HB.out | apply below_alloc | apply pw_below_drewN | apply below_drew1) | exact HB.out))) : w.heap.size ≤ gb137)); have n3_ := Aside0.mk ((by rw [hg]; exact (below_size (by repeat (first | (with_reducible first | exact HB.out | apply below_alloc | apply pw_below_drewN | apply below_drew1) | exact HB.out))) : w.heap.size ≤ gb137)); clear HB; have HB := n0_; have BK137 := n1_; have GW137 := n2_; have GE137 := n3_; clear n0_ n1_ n2_ n3_; clear hb hbox hg; have hcz5_0 : w4.cell? ⟨gb137, 0, none⟩ = some (.int .i64 a0_0) := (blk_cell BK137.out 0).trans rfl; have hcz5_1 : w4.cell? ⟨gb137, 1, none⟩ = some (.string a0_1) := (blk_cell BK137.out 1).trans rfl; have hcz5_2 : w4.cell? ⟨gb137, 2, none⟩ = some (.string a0_2) := (blk_cell BK137.out 2).trans rfl; have hcz5_3 : w4.cell? ⟨gb137, 3, none⟩ = some (.string a0_3) := (blk_cell BK137.out 3).trans rfl; have hcz5_4 : w4.cell? ⟨gb137, 4, none⟩ = some (.bool a0_4) := (blk_cell BK137.out 4).trans rfl; have hfz5_0 := blk_frozen BK137.out 0; have hfz5_1 := blk_frozen BK137.out 1; have hfz5_2 := blk_frozen BK137.out 2; have hfz5_3 := blk_frozen BK137.out 3; have hfz5_4 := blk_frozen BK137.out 4) | ((with_reducible refine gate_callee (f := 23) rfl ?_); refine goesL_ (some 10) rfl rfl Tryd.func23 (by kernel_rfl) rfl #[.string a0_2, .string (⟨#[115, 101, 113]⟩ : ByteArray)] rfl (by (try simp only [List.map_toArray, List.map_cons, List.map_nil]); first | done | rfl | (simp only [List.length_drop, List.length_take]; rfl)) ?_; (with_reducible refine (compose_named.calls k a0_2 (⟨#[115, 101, 113]⟩ : ByteArray) t138 t139 _ A3.out).mono ?_); rintro e w6 ⟨rfl, hb⟩; refine ⟨_, rfl, ?_⟩; have n0_ := Aside0.mk (blk_below (g := gb137) (o := .cells #[.int .i64 a0_0, .string a0_1, .string a0_2, .string a0_3, .bool a0_4] 30 (0, 0)) (by (with_reducible repeat (first | refine blk_drewN ?_ _ | refine blk_drew ?_ | refine blk_alloc ?_ _)); exact BK137.out) hb); have n1_ := Aside0.mk (below_step (by repeat (first | (with_reducible first | exact HB.out | apply below_alloc | apply pw_below_drewN | apply below_drew1 | refine below_set ?_ GE137.out) | exact HB.out)) hb); clear BK137; clear HB; have BK137 := n0_; have HB := n1_; clear n0_ n1_; (try clear hb); (try clear hb2); (try clear hk); (try clear hi)))
    go_ret2
    exact ⟨by first | rfl | (simp [errW_none, errW_some] <;> rfl) | (simp [*, errW_none, errW_some] <;> rfl), by repeat (first | (with_reducible first | exact HB.out | apply below_alloc | apply pw_below_drewN | apply below_drew1 | refine below_set ?_ GE137.out) | exact HB.out)⟩
  · rw [if_neg c2] at H
    have c2b0 : (a0_0 == 2) = false := beq_eq_false_iff_ne.mpr c2
    have c2b1 : (a0_0 != 2) = true := bne_iff_ne.mpr c2
    by_cases c7 : a0_0 = 4
    · rw [if_pos c7] at H
      have c7b0 : (a0_0 == 4) = true := beq_iff_eq.mpr c7
      have c7b1 : (a0_0 != 4) = false := bne_eq_false_iff_eq.mpr c7
      clear c7
      replace H := Option.bind_eq_some_iff.mp H
      obtain ⟨⟨t140, t141⟩, A80, H⟩ := H
      replace H : (some (t140, t141)) = some (r1, r2) := H
      have A8 := Aside0.mk A80
      clear A80
      simp only [Option.some.injEq, Prod.mk.injEq] at H
      obtain ⟨rfl, rfl⟩ := H
      go_enter Tryd.func10, Tryd.ntmps10
      go_wp2_with (first | ((with_reducible refine gate_dst (N := 1) rfl ?_); refine box_event ?hg (N := 1) ?hd (cs := #[.int .i64 a0_0, .string a0_1, .string a0_2, .string a0_3, .bool a0_4]) (t := 30) ?hr ?_; (case hd => rfl); (case hg => rfl); (case hr => first | (go_simp; done) | (go_simp; rfl)); intro gb137 hg w9 hbox hb; have n0_ := Aside0.mk (below_step (by repeat (first | (with_reducible first | exact HB.out | apply below_alloc | apply pw_below_drewN | apply below_drew1) | exact HB.out)) hb); have n1_ := Aside0.mk (hbox); have n2_ := Aside0.mk ((by rw [hg]; exact (below_size (by repeat (first | (with_reducible first | exact HB.out | apply below_alloc | apply pw_below_drewN | apply below_drew1) | exact HB.out))) : w.heap.size ≤ gb137)); have n3_ := Aside0.mk ((by rw [hg]; exact (below_size (by repeat (first | (with_reducible first | exact HB.out | apply below_alloc | apply pw_below_drewN | apply below_drew1) | exact HB.out))) : w.heap.size ≤ gb137)); clear HB; have HB := n0_; have BK137 := n1_; have GW137 := n2_; have GE137 := n3_; clear n0_ n1_ n2_ n3_; clear hb hbox hg; have hcz10_0 : w9.cell? ⟨gb137, 0, none⟩ = some (.int .i64 a0_0) := (blk_cell BK137.out 0).trans rfl; have hcz10_1 : w9.cell? ⟨gb137, 1, none⟩ = some (.string a0_1) := (blk_cell BK137.out 1).trans rfl; have hcz10_2 : w9.cell? ⟨gb137, 2, none⟩ = some (.string a0_2) := (blk_cell BK137.out 2).trans rfl; have hcz10_3 : w9.cell? ⟨gb137, 3, none⟩ = some (.string a0_3) := (blk_cell BK137.out 3).trans rfl; have hcz10_4 : w9.cell? ⟨gb137, 4, none⟩ = some (.bool a0_4) := (blk_cell BK137.out 4).trans rfl; have hfz10_0 := blk_frozen BK137.out 0; have hfz10_1 := blk_frozen BK137.out 1; have hfz10_2 := blk_frozen BK137.out 2; have hfz10_3 := blk_frozen BK137.out 3; have hfz10_4 := blk_frozen BK137.out 4) | ((with_reducible refine gate_callee (f := 23) rfl ?_); refine goesL_ (some 17) rfl rfl Tryd.func23 (by kernel_rfl) rfl #[.string a0_2, .string (⟨#[109, 97, 112]⟩ : ByteArray)] rfl (by (try simp only [List.map_toArray, List.map_cons, List.map_nil]); first | done | rfl | (simp only [List.length_drop, List.length_take]; rfl)) ?_; (with_reducible refine (compose_named.calls k a0_2 (⟨#[109, 97, 112]⟩ : ByteArray) t140 t141 _ A8.out).mono ?_); rintro e w11 ⟨rfl, hb⟩; refine ⟨_, rfl, ?_⟩; have n0_ := Aside0.mk (blk_below (g := gb137) (o := .cells #[.int .i64 a0_0, .string a0_1, .string a0_2, .string a0_3, .bool a0_4] 30 (0, 0)) (by (with_reducible repeat (first | refine blk_drewN ?_ _ | refine blk_drew ?_ | refine blk_alloc ?_ _)); exact BK137.out) hb); have n1_ := Aside0.mk (below_step (by repeat (first | (with_reducible first | exact HB.out | apply below_alloc | apply pw_below_drewN | apply below_drew1 | refine below_set ?_ GE137.out) | exact HB.out)) hb); clear BK137; clear HB; have BK137 := n0_; have HB := n1_; clear n0_ n1_; (try clear hb); (try clear hb2); (try clear hk); (try clear hi)))
      go_ret2
      exact ⟨by first | rfl | (simp [errW_none, errW_some] <;> rfl) | (simp [*, errW_none, errW_some] <;> rfl), by repeat (first | (with_reducible first | exact HB.out | apply below_alloc | apply pw_below_drewN | apply below_drew1 | refine below_set ?_ GE137.out) | exact HB.out)⟩
    · rw [if_neg c7] at H
      have c7b0 : (a0_0 == 4) = false := beq_eq_false_iff_ne.mpr c7
      have c7b1 : (a0_0 != 4) = true := bne_iff_ne.mpr c7
      by_cases c12 : a0_0 = 6
      · rw [if_pos c12] at H
        have c12b0 : (a0_0 == 6) = true := beq_iff_eq.mpr c12
        have c12b1 : (a0_0 != 6) = false := bne_eq_false_iff_eq.mpr c12
        clear c12
        have HC13 := Aside0.mk H
        clear H
        go_enter Tryd.func10, Tryd.ntmps10
        go_upto_region 7 with (first | ((with_reducible refine gate_dst (N := 1) rfl ?_); refine box_event ?hg (N := 1) ?hd (cs := #[.int .i64 a0_0, .string a0_1, .string a0_2, .string a0_3, .bool a0_4]) (t := 30) ?hr ?_; (case hd => rfl); (case hg => rfl); (case hr => first | (go_simp; done) | (go_simp; rfl)); intro gb137 hg w14 hbox hb; have n0_ := Aside0.mk (below_step (by repeat (first | (with_reducible first | exact HB.out | apply below_alloc | apply pw_below_drewN | apply below_drew1) | exact HB.out)) hb); have n1_ := Aside0.mk (hbox); have n2_ := Aside0.mk ((by rw [hg]; exact (below_size (by repeat (first | (with_reducible first | exact HB.out | apply below_alloc | apply pw_below_drewN | apply below_drew1) | exact HB.out))) : w.heap.size ≤ gb137)); have n3_ := Aside0.mk ((by rw [hg]; exact (below_size (by repeat (first | (with_reducible first | exact HB.out | apply below_alloc | apply pw_below_drewN | apply below_drew1) | exact HB.out))) : w.heap.size ≤ gb137)); clear HB; have HB := n0_; have BK137 := n1_; have GW137 := n2_; have GE137 := n3_; clear n0_ n1_ n2_ n3_; clear hb hbox hg; have hcz15_0 : w14.cell? ⟨gb137, 0, none⟩ = some (.int .i64 a0_0) := (blk_cell BK137.out 0).trans rfl; have hcz15_1 : w14.cell? ⟨gb137, 1, none⟩ = some (.string a0_1) := (blk_cell BK137.out 1).trans rfl; have hcz15_2 : w14.cell? ⟨gb137, 2, none⟩ = some (.string a0_2) := (blk_cell BK137.out 2).trans rfl; have hcz15_3 : w14.cell? ⟨gb137, 3, none⟩ = some (.string a0_3) := (blk_cell BK137.out 3).trans rfl; have hcz15_4 : w14.cell? ⟨gb137, 4, none⟩ = some (.bool a0_4) := (blk_cell BK137.out 4).trans rfl; have hfz15_0 := blk_frozen BK137.out 0; have hfz15_1 := blk_frozen BK137.out 1; have hfz15_2 := blk_frozen BK137.out 2; have hfz15_3 := blk_frozen BK137.out 3; have hfz15_4 := blk_frozen BK137.out 4))
        (try simp only [Act.put, List.setIfInBounds_toArray, List.set_cons_zero, List.set_cons_succ])
        go_cut [22] (fun v22 wc => ∃ (kq : Nat) (x22_12 : Bool), v22 = .bool x22_12 ∧ Aside0 (compose_Tag.j0 kq x22_12 a0_0 a0_1 a0_2 a0_3 a0_4 = some (r1, r2)) ∧ Aside0 (kq ≤ k) ∧ Aside0 (wc.heap[gb137]? = some (.cells #[.int .i64 a0_0, .string a0_1, .string a0_2, .string a0_3, .bool a0_4] 30 (0, 0))) ∧ Aside0 (Below w.heap.size w wc))
        case first =>
          have H := HC13.out
          clear HC13
          by_cases c16 : a0_2.toList = ([] : List UInt8)
          · rw [if_pos c16] at H
            have c16b0 : (a0_2.toList == ([] : List UInt8)) = true := beq_iff_eq.mpr c16
            have c16b1 : (a0_2.toList != ([] : List UInt8)) = false := bne_eq_false_iff_eq.mpr c16
            clear c16
            (first | rw [c16b0] | (simp only [i64_w, i32_w]; rw [c16b0]) | skip)
            have H' := Aside0.mk H
            clear H
            have hcz17_0 : w14.cell? ⟨gb137, 0, none⟩ = some (.int .i64 a0_0) := (blk_cell BK137.out 0).trans rfl
            have hcz17_1 : w14.cell? ⟨gb137, 1, none⟩ = some (.string a0_1) := (blk_cell BK137.out 1).trans rfl
            have hcz17_2 : w14.cell? ⟨gb137, 2, none⟩ = some (.string a0_2) := (blk_cell BK137.out 2).trans rfl
            have hcz17_3 : w14.cell? ⟨gb137, 3, none⟩ = some (.string a0_3) := (blk_cell BK137.out 3).trans rfl
            have hcz17_4 : w14.cell? ⟨gb137, 4, none⟩ = some (.bool a0_4) := (blk_cell BK137.out 4).trans rfl
            have hfz17_0 := blk_frozen BK137.out 0
            have hfz17_1 := blk_frozen BK137.out 1
            have hfz17_2 := blk_frozen BK137.out 2
            have hfz17_3 := blk_frozen BK137.out 3
            have hfz17_4 := blk_frozen BK137.out 4
            go_wp2
            go_meet
            case rel => exact ⟨_, (a0_4), (by first | rfl | (simp; done) | (simp [*]; done) | (simp [xbne_nil, xbeq_nil]; done)), H', ⟨by first | omega | exact Nat.le_refl _⟩, ⟨by (with_reducible repeat (first | refine blk_drewN ?_ _ | refine blk_drew ?_ | refine blk_alloc ?_ _)); exact BK137.out⟩, ⟨by repeat (first | (with_reducible first | exact HB.out | apply below_alloc | apply pw_below_drewN | apply below_drew1 | refine below_set ?_ GE137.out) | exact HB.out)⟩⟩
          · rw [if_neg c16] at H
            have c16b0 : (a0_2.toList == ([] : List UInt8)) = false := beq_eq_false_iff_ne.mpr c16
            have c16b1 : (a0_2.toList != ([] : List UInt8)) = true := bne_iff_ne.mpr c16
            (first | rw [c16b0] | (simp only [i64_w, i32_w]; rw [c16b0]) | skip)
            have H' := Aside0.mk H
            clear H
            have hcz18_0 : w14.cell? ⟨gb137, 0, none⟩ = some (.int .i64 a0_0) := (blk_cell BK137.out 0).trans rfl
            have hcz18_1 : w14.cell? ⟨gb137, 1, none⟩ = some (.string a0_1) := (blk_cell BK137.out 1).trans rfl
            have hcz18_2 : w14.cell? ⟨gb137, 2, none⟩ = some (.string a0_2) := (blk_cell BK137.out 2).trans rfl
            have hcz18_3 : w14.cell? ⟨gb137, 3, none⟩ = some (.string a0_3) := (blk_cell BK137.out 3).trans rfl
            have hcz18_4 : w14.cell? ⟨gb137, 4, none⟩ = some (.bool a0_4) := (blk_cell BK137.out 4).trans rfl
            have hfz18_0 := blk_frozen BK137.out 0
            have hfz18_1 := blk_frozen BK137.out 1
            have hfz18_2 := blk_frozen BK137.out 2
            have hfz18_3 := blk_frozen BK137.out 3
            have hfz18_4 := blk_frozen BK137.out 4
            go_wp2
            go_meet
            case rel => exact ⟨_, (false), (by first | rfl | (simp; done) | (simp [*]; done) | (simp [xbne_nil, xbeq_nil]; done)), H', ⟨by first | omega | exact Nat.le_refl _⟩, ⟨by (with_reducible repeat (first | refine blk_drewN ?_ _ | refine blk_drew ?_ | refine blk_alloc ?_ _)); exact BK137.out⟩, ⟨by repeat (first | (with_reducible first | exact HB.out | apply below_alloc | apply pw_below_drewN | apply below_drew1 | refine below_set ?_ GE137.out) | exact HB.out)⟩⟩
        case rest =>
          clear HC13
          try clear c1
          try clear c2
          try clear c2b0
          try clear c2b1
          try clear p2
          try clear c7
          try clear c7b0
          try clear c7b1
          try clear c10
          try clear c12
          try clear c12b0
          try clear c12b1
          try clear c16
          try clear c16b0
          try clear c16b1
          try clear hcz10_0
          try clear hcz10_1
          try clear hcz10_2
          try clear hcz10_3
          try clear hcz10_4
          try clear hcz15_0
          try clear hcz15_1
          try clear hcz15_2
          try clear hcz15_3
          try clear hcz15_4
          try clear hcz17_0
          try clear hcz17_1
          try clear hcz17_2
          try clear hcz17_3
          try clear hcz17_4
          try clear hcz18_0
          try clear hcz18_1
          try clear hcz18_2
          try clear hcz18_3
          try clear hcz18_4
          try clear hcz5_0
          try clear hcz5_1
          try clear hcz5_2
          try clear hcz5_3
          try clear hcz5_4
          try clear hfz10_0
          try clear hfz10_1
          try clear hfz10_2
          try clear hfz10_3
          try clear hfz10_4
          try clear hfz15_0
          try clear hfz15_1
          try clear hfz15_2
          try clear hfz15_3
          try clear hfz15_4
          try clear hfz17_0
          try clear hfz17_1
          try clear hfz17_2
          try clear hfz17_3
          try clear hfz17_4
          try clear hfz18_0
          try clear hfz18_1
          try clear hfz18_2
          try clear hfz18_3
          try clear hfz18_4
          try clear hfz5_0
          try clear hfz5_1
          try clear hfz5_2
          try clear hfz5_3
          try clear hfz5_4
          obtain ⟨kq, x22_12, rfl, HA, HJ12, BK137, HB⟩ := hcut
          cases kq with
          | zero => exact absurd HA.out (by simp [compose_Tag.j0])
          | succ kj12 =>
            have H := HA.out
            clear HA
            simp only [compose_Tag.j0] at H
            by_cases c19 : x22_12 = true
            · subst c19
              have H1 : ((tag_Resolve.f kj12 a0_3).bind fun t142 => (some (t142, 0))) = some (r1, r2) := by rw [if_pos rfl] at H; exact H
              clear H
              have H := H1
              clear H1
              replace H := Option.bind_eq_some_iff.mp H
              obtain ⟨t142, A200, H⟩ := H
              replace H : (some (t142, 0)) = some (r1, r2) := H
              have A20 := Aside0.mk A200
              clear A200
              simp only [Option.some.injEq, Prod.mk.injEq] at H
              obtain ⟨rfl, rfl⟩ := H
              have hcz21_0 : wc.cell? ⟨gb137, 0, none⟩ = some (.int .i64 a0_0) := (blk_cell BK137.out 0).trans rfl
              have hcz21_1 : wc.cell? ⟨gb137, 1, none⟩ = some (.string a0_1) := (blk_cell BK137.out 1).trans rfl
              have hcz21_2 : wc.cell? ⟨gb137, 2, none⟩ = some (.string a0_2) := (blk_cell BK137.out 2).trans rfl
              have hcz21_3 : wc.cell? ⟨gb137, 3, none⟩ = some (.string a0_3) := (blk_cell BK137.out 3).trans rfl
              have hcz21_4 : wc.cell? ⟨gb137, 4, none⟩ = some (.bool a0_4) := (blk_cell BK137.out 4).trans rfl
              have hfz21_0 := blk_frozen BK137.out 0
              have hfz21_1 := blk_frozen BK137.out 1
              have hfz21_2 := blk_frozen BK137.out 2
              have hfz21_3 := blk_frozen BK137.out 3
              have hfz21_4 := blk_frozen BK137.out 4
              go_wp2_with (first | ((with_reducible refine gate_callee (f := 24) rfl ?_); refine goesL_ (some 32) rfl rfl Tryd.func24 (by kernel_rfl) rfl #[.string a0_3] rfl (by (try simp only [List.map_toArray, List.map_cons, List.map_nil]); first | done | rfl | (simp only [List.length_drop, List.length_take]; rfl)) ?_; (with_reducible refine (tag_Resolve.calls kj12 a0_3 t142 _ A20.out).mono ?_); rintro e w' ⟨rfl, ⟨nd, rfl⟩⟩; refine ⟨_, rfl, ?_⟩))
              go_ret2
              exact ⟨by first | rfl | (simp [errW_none, errW_some] <;> rfl) | (simp [*, errW_none, errW_some] <;> rfl), by repeat (first | (with_reducible first | exact HB.out | apply below_alloc | apply pw_below_drewN | apply below_drew1 | refine below_set ?_ GE137.out) | exact HB.out)⟩
            · replace c19 := Bool.eq_false_iff.mpr c19
              subst c19
              have H1 : (if a0_2.toList = ([] : List UInt8) then (some ((⟨#[115, 116, 114]⟩ : ByteArray), 0)) else ((tag_Fits.f kj12 a0_2 a0_3).bind fun t143 => (if t143 = true then (some (a0_2, 0)) else (some ((⟨#[]⟩ : ByteArray), 14))))) = some (r1, r2) := by rw [if_neg (show ¬ (false = true) by decide)] at H; exact H
              clear H
              have H := H1
              clear H1
              by_cases c22 : a0_2.toList = ([] : List UInt8)
              · rw [if_pos c22] at H
                have c22b0 : (a0_2.toList == ([] : List UInt8)) = true := beq_iff_eq.mpr c22
                have c22b1 : (a0_2.toList != ([] : List UInt8)) = false := bne_eq_false_iff_eq.mpr c22
                clear c22
                simp only [Option.some.injEq, Prod.mk.injEq] at H
                obtain ⟨rfl, rfl⟩ := H
                have hcz23_0 : wc.cell? ⟨gb137, 0, none⟩ = some (.int .i64 a0_0) := (blk_cell BK137.out 0).trans rfl
                have hcz23_1 : wc.cell? ⟨gb137, 1, none⟩ = some (.string a0_1) := (blk_cell BK137.out 1).trans rfl
                have hcz23_2 : wc.cell? ⟨gb137, 2, none⟩ = some (.string a0_2) := (blk_cell BK137.out 2).trans rfl
                have hcz23_3 : wc.cell? ⟨gb137, 3, none⟩ = some (.string a0_3) := (blk_cell BK137.out 3).trans rfl
                have hcz23_4 : wc.cell? ⟨gb137, 4, none⟩ = some (.bool a0_4) := (blk_cell BK137.out 4).trans rfl
                have hfz23_0 := blk_frozen BK137.out 0
                have hfz23_1 := blk_frozen BK137.out 1
                have hfz23_2 := blk_frozen BK137.out 2
                have hfz23_3 := blk_frozen BK137.out 3
                have hfz23_4 := blk_frozen BK137.out 4
                go_wp2
                go_ret2
                exact ⟨by first | rfl | (simp [errW_none, errW_some] <;> rfl) | (simp [*, errW_none, errW_some] <;> rfl), by repeat (first | (with_reducible first | exact HB.out | apply below_alloc | apply pw_below_drewN | apply below_drew1 | refine below_set ?_ GE137.out) | exact HB.out)⟩
              · rw [if_neg c22] at H
                have c22b0 : (a0_2.toList == ([] : List UInt8)) = false := beq_eq_false_iff_ne.mpr c22
                have c22b1 : (a0_2.toList != ([] : List UInt8)) = true := bne_iff_ne.mpr c22
                replace H := Option.bind_eq_some_iff.mp H
                obtain ⟨t143, A240, H⟩ := H
                replace H : (if t143 = true then (some (a0_2, 0)) else (some ((⟨#[]⟩ : ByteArray), 14))) = some (r1, r2) := H
                have A24 := Aside0.mk A240
                clear A240
                by_cases c25 : t143 = true
                · subst c25
                  have H1 : (some (a0_2, 0)) = some (r1, r2) := by rw [if_pos rfl] at H; exact H
                  clear H
                  have H := H1
                  clear H1
                  simp only [Option.some.injEq, Prod.mk.injEq] at H
                  obtain ⟨rfl, rfl⟩ := H
                  have hcz26_0 : wc.cell? ⟨gb137, 0, none⟩ = some (.int .i64 a0_0) := (blk_cell BK137.out 0).trans rfl
                  have hcz26_1 : wc.cell? ⟨gb137, 1, none⟩ = some (.string a0_1) := (blk_cell BK137.out 1).trans rfl
                  have hcz26_2 : wc.cell? ⟨gb137, 2, none⟩ = some (.string a0_2) := (blk_cell BK137.out 2).trans rfl
                  have hcz26_3 : wc.cell? ⟨gb137, 3, none⟩ = some (.string a0_3) := (blk_cell BK137.out 3).trans rfl
                  have hcz26_4 : wc.cell? ⟨gb137, 4, none⟩ = some (.bool a0_4) := (blk_cell BK137.out 4).trans rfl
                  have hfz26_0 := blk_frozen BK137.out 0
                  have hfz26_1 := blk_frozen BK137.out 1
                  have hfz26_2 := blk_frozen BK137.out 2
                  have hfz26_3 := blk_frozen BK137.out 3
                  have hfz26_4 := blk_frozen BK137.out 4
                  go_wp2_with (first | ((with_reducible refine gate_callee (f := 25) rfl ?_); refine goesL_ (some 42) rfl rfl Tryd.func25 (by kernel_rfl) rfl #[.string a0_2, .string a0_3] rfl (by (try simp only [List.map_toArray, List.map_cons, List.map_nil]); first | done | rfl | (simp only [List.length_drop, List.length_take]; rfl)) ?_; (with_reducible refine (tag_Fits.calls kj12 a0_2 a0_3 true _ A24.out).mono ?_); rintro e w27 ⟨rfl, hb⟩; refine ⟨_, rfl, ?_⟩; have n0_ := Aside0.mk (blk_below (g := gb137) (o := .cells #[.int .i64 a0_0, .string a0_1, .string a0_2, .string a0_3, .bool a0_4] 30 (0, 0)) (by (with_reducible repeat (first | refine blk_drewN ?_ _ | refine blk_drew ?_ | refine blk_alloc ?_ _)); exact BK137.out) hb); have n1_ := Aside0.mk (below_step (by repeat (first | (with_reducible first | exact HB.out | apply below_alloc | apply pw_below_drewN | apply below_drew1 | refine below_set ?_ GE137.out) | exact HB.out)) hb); clear BK137; clear HB; have BK137 := n0_; have HB := n1_; clear n0_ n1_; (try clear hb); (try clear hb2); (try clear hk); (try clear hi); have hcz28_0 : w27.cell? ⟨gb137, 0, none⟩ = some (.int .i64 a0_0) := (blk_cell BK137.out 0).trans rfl; have hcz28_1 : w27.cell? ⟨gb137, 1, none⟩ = some (.string a0_1) := (blk_cell BK137.out 1).trans rfl; have hcz28_2 : w27.cell? ⟨gb137, 2, none⟩ = some (.string a0_2) := (blk_cell BK137.out 2).trans rfl; have hcz28_3 : w27.cell? ⟨gb137, 3, none⟩ = some (.string a0_3) := (blk_cell BK137.out 3).trans rfl; have hcz28_4 : w27.cell? ⟨gb137, 4, none⟩ = some (.bool a0_4) := (blk_cell BK137.out 4).trans rfl; have hfz28_0 := blk_frozen BK137.out 0; have hfz28_1 := blk_frozen BK137.out 1; have hfz28_2 := blk_frozen BK137.out 2; have hfz28_3 := blk_frozen BK137.out 3; have hfz28_4 := blk_frozen BK137.out 4))
                  go_ret2
                  exact ⟨by first | rfl | (simp [errW_none, errW_some] <;> rfl) | (simp [*, errW_none, errW_some] <;> rfl), by repeat (first | (with_reducible first | exact HB.out | apply below_alloc | apply pw_below_drewN | apply below_drew1 | refine below_set ?_ GE137.out) | exact HB.out)⟩
                · replace c25 := Bool.eq_false_iff.mpr c25
                  subst c25
                  have H1 : (some ((⟨#[]⟩ : ByteArray), 14)) = some (r1, r2) := by rw [if_neg (show ¬ (false = true) by decide)] at H; exact H
                  clear H
                  have H := H1
                  clear H1
                  simp only [Option.some.injEq, Prod.mk.injEq] at H
                  obtain ⟨rfl, rfl⟩ := H
                  have hcz29_0 : wc.cell? ⟨gb137, 0, none⟩ = some (.int .i64 a0_0) := (blk_cell BK137.out 0).trans rfl
                  have hcz29_1 : wc.cell? ⟨gb137, 1, none⟩ = some (.string a0_1) := (blk_cell BK137.out 1).trans rfl
                  have hcz29_2 : wc.cell? ⟨gb137, 2, none⟩ = some (.string a0_2) := (blk_cell BK137.out 2).trans rfl
                  have hcz29_3 : wc.cell? ⟨gb137, 3, none⟩ = some (.string a0_3) := (blk_cell BK137.out 3).trans rfl
                  have hcz29_4 : wc.cell? ⟨gb137, 4, none⟩ = some (.bool a0_4) := (blk_cell BK137.out 4).trans rfl
                  have hfz29_0 := blk_frozen BK137.out 0
                  have hfz29_1 := blk_frozen BK137.out 1
                  have hfz29_2 := blk_frozen BK137.out 2
                  have hfz29_3 := blk_frozen BK137.out 3
                  have hfz29_4 := blk_frozen BK137.out 4
                  go_wp2_with (first | ((with_reducible refine gate_callee (f := 25) rfl ?_); refine goesL_ (some 42) rfl rfl Tryd.func25 (by kernel_rfl) rfl #[.string a0_2, .string a0_3] rfl (by (try simp only [List.map_toArray, List.map_cons, List.map_nil]); first | done | rfl | (simp only [List.length_drop, List.length_take]; rfl)) ?_; (with_reducible refine (tag_Fits.calls kj12 a0_2 a0_3 false _ A24.out).mono ?_); rintro e w30 ⟨rfl, hb⟩; refine ⟨_, rfl, ?_⟩; have n0_ := Aside0.mk (blk_below (g := gb137) (o := .cells #[.int .i64 a0_0, .string a0_1, .string a0_2, .string a0_3, .bool a0_4] 30 (0, 0)) (by (with_reducible repeat (first | refine blk_drewN ?_ _ | refine blk_drew ?_ | refine blk_alloc ?_ _)); exact BK137.out) hb); have n1_ := Aside0.mk (below_step (by repeat (first | (with_reducible first | exact HB.out | apply below_alloc | apply pw_below_drewN | apply below_drew1 | refine below_set ?_ GE137.out) | exact HB.out)) hb); clear BK137; clear HB; have BK137 := n0_; have HB := n1_; clear n0_ n1_; (try clear hb); (try clear hb2); (try clear hk); (try clear hi)))
                  go_ret2
                  exact ⟨by first | rfl | (simp [errW_none, errW_some] <;> rfl) | (simp [*, errW_none, errW_some] <;> rfl), by repeat (first | (with_reducible first | exact HB.out | apply below_alloc | apply pw_below_drewN | apply below_drew1 | refine below_set ?_ GE137.out) | exact HB.out)⟩
      · rw [if_neg c12] at H
        have c12b0 : (a0_0 == 6) = false := beq_eq_false_iff_ne.mpr c12
        have c12b1 : (a0_0 != 6) = true := bne_iff_ne.mpr c12
        simp only [Option.some.injEq, Prod.mk.injEq] at H
        obtain ⟨rfl, rfl⟩ := H
        go_enter Tryd.func10, Tryd.ntmps10
        go_wp2_with (first | ((with_reducible refine gate_dst (N := 1) rfl ?_); refine box_event ?hg (N := 1) ?hd (cs := #[.int .i64 a0_0, .string a0_1, .string a0_2, .string a0_3, .bool a0_4]) (t := 30) ?hr ?_; (case hd => rfl); (case hg => rfl); (case hr => first | (go_simp; done) | (go_simp; rfl)); intro gb137 hg w31 hbox hb; have n0_ := Aside0.mk (below_step (by repeat (first | (with_reducible first | exact HB.out | apply below_alloc | apply pw_below_drewN | apply below_drew1) | exact HB.out)) hb); have n1_ := Aside0.mk (hbox); have n2_ := Aside0.mk ((by rw [hg]; exact (below_size (by repeat (first | (with_reducible first | exact HB.out | apply below_alloc | apply pw_below_drewN | apply below_drew1) | exact HB.out))) : w.heap.size ≤ gb137)); have n3_ := Aside0.mk ((by rw [hg]; exact (below_size (by repeat (first | (with_reducible first | exact HB.out | apply below_alloc | apply pw_below_drewN | apply below_drew1) | exact HB.out))) : w.heap.size ≤ gb137)); clear HB; have HB := n0_; have BK137 := n1_; have GW137 := n2_; have GE137 := n3_; clear n0_ n1_ n2_ n3_; clear hb hbox hg; have hcz32_0 : w31.cell? ⟨gb137, 0, none⟩ = some (.int .i64 a0_0) := (blk_cell BK137.out 0).trans rfl; have hcz32_1 : w31.cell? ⟨gb137, 1, none⟩ = some (.string a0_1) := (blk_cell BK137.out 1).trans rfl; have hcz32_2 : w31.cell? ⟨gb137, 2, none⟩ = some (.string a0_2) := (blk_cell BK137.out 2).trans rfl; have hcz32_3 : w31.cell? ⟨gb137, 3, none⟩ = some (.string a0_3) := (blk_cell BK137.out 3).trans rfl; have hcz32_4 : w31.cell? ⟨gb137, 4, none⟩ = some (.bool a0_4) := (blk_cell BK137.out 4).trans rfl; have hfz32_0 := blk_frozen BK137.out 0; have hfz32_1 := blk_frozen BK137.out 1; have hfz32_2 := blk_frozen BK137.out 2; have hfz32_3 := blk_frozen BK137.out 3; have hfz32_4 := blk_frozen BK137.out 4))
        go_ret2
        exact ⟨by first | rfl | (simp [errW_none, errW_some] <;> rfl) | (simp [*, errW_none, errW_some] <;> rfl), by repeat (first | (with_reducible first | exact HB.out | apply below_alloc | apply pw_below_drewN | apply below_drew1 | refine below_set ?_ GE137.out) | exact HB.out)⟩
end Go.Proofs.YtgnmjaacnmkgnaaDoor.T
end
section
namespace Go.Proofs.YtgnmjaacnmkgnaaDoor.X
open Go.RowKit Go.Shelf Go.Proofs Impl
set_option linter.unusedVariables false
set_option linter.unusedSimpArgs false
namespace Evt
abbrev bSeq : List UInt8 := [115, 101, 113]
abbrev bMap : List UInt8 := [109, 97, 112]
def namedL (t p : List UInt8) : List UInt8 × Int := if t = [] ∨ t = p then (p, 0) else if right t = true ∧ ¬ t ∈ cores then (t, 0) else ([], 14)
def tagL (k : Int) (t s : List UInt8) (plain : Bool) : List UInt8 × Int :=
  if k = 2 then namedL t bSeq else if k = 4 then namedL t bMap
  else if k = 6 then (if t = [] then (if plain = true then (R1 s, 0) else (bStr, 0)) else if fits t s = true then (t, 0) else ([], 14))
  else ([], 5)
def tagF (x : Ev) : ByteArray × Int := (ba (tagL x.kind x.tag.data.toList x.text.data.toList x.plain).1, (tagL x.kind x.tag.data.toList x.text.data.toList x.plain).2)
theorem ba_list (s : ByteArray) : ba s.data.toList = s := by cases s; simp [ba]
theorem named1 (t p : List UInt8) (k : Nat) (hk : 10 ≤ k) : T.compose_named.f k (ba t) (ba p) = some (ba (namedL t p).1, (namedL t p).2) := by
  obtain ⟨k, rfl⟩ : ∃ m, k = m + 1 := ⟨k - 1, by omega⟩
  unfold T.compose_named.f namedL
  simp only [Bytes.toList_mk]
  by_cases h1 : t = []
  · subst h1; simp [T.compose_named.j0]
  · rw [if_neg h1]
    by_cases h2 : t = p
    · subst h2; simp [T.compose_named.j0]
    · rw [if_neg (by simp [h1, h2])]
      have hb : (t == p) = false := by simpa using h2
      simp only [T.compose_named.j0, hb, right1, core1, Option.bind_some]
      by_cases h3 : right t = true
      · by_cases h4 : t ∈ cores
        · simp [h3, h4]
        · simp [h3, h4]
      · simp [h3]
theorem tag1 (kd : Int) (an : ByteArray) (t s : List UInt8) (plain : Bool) (k : Nat) (hk : 300010 ≤ k) (hs : s.length ≤ 2000) : T.compose_Tag.f k kd an (ba t) (ba s) plain = some (ba (tagL kd t s plain).1, (tagL kd t s plain).2) := by
  obtain ⟨k, rfl⟩ : ∃ m, k = m + 1 := ⟨k - 1, by omega⟩
  unfold T.compose_Tag.f tagL
  by_cases h2 : kd = 2
  · rw [if_pos h2, if_pos h2]
    have := named1 t bSeq (k + 1) (by omega)
    rw [show (⟨#[115, 101, 113]⟩ : ByteArray) = ba bSeq from rfl, this]; rfl
  · rw [if_neg h2, if_neg h2]
    by_cases h4 : kd = 4
    · rw [if_pos h4, if_pos h4]
      have := named1 t bMap (k + 1) (by omega)
      rw [show (⟨#[109, 97, 112]⟩ : ByteArray) = ba bMap from rfl, this]; rfl
    · rw [if_neg h4, if_neg h4]
      by_cases h6 : kd = 6
      · rw [if_pos h6, if_pos h6]
        simp only [Bytes.toList_mk]
        by_cases ht : t = []
        · rw [if_pos ht, if_pos ht]
          cases plain
          · simp [T.compose_Tag.j0, ht]
          · simp only [T.compose_Tag.j0, if_true]; rw [resolve1 s k hs (by omega)]; rfl
        · rw [if_neg ht, if_neg ht]
          simp only [T.compose_Tag.j0, Bytes.toList_mk, if_neg ht]
          rw [fits1 t s k hs (by omega)]
          simp only [Option.bind_some]
          by_cases hf : fits t s = true
          · simp [hf]
          · simp [hf]
      · rw [if_neg h6, if_neg h6]
theorem tag_calls (x : Ev) (w : World) (hs : x.text.size ≤ 2000) : Calls Tryd.prog 10 #[.agg #[.int .i64 x.kind, .string x.anchor, .string x.tag, .string x.text, .bool x.plain]] w fun e w' => e = .returned (.tuple #[.string (tagF x).1, .int .i64 (tagF x).2]) ∧ Below w.heap.size w w' := by
  have h := tag1 x.kind x.anchor x.tag.data.toList x.text.data.toList x.plain 300010 (by omega) hs
  rw [ba_list, ba_list] at h
  exact T.compose_Tag.calls 300010 _ _ _ _ _ _ _ w h
end Evt
end Go.Proofs.YtgnmjaacnmkgnaaDoor.X
end
section
namespace Go.Proofs.YtgnmjaacnmkgnaaDoor.X
open Go.RowKit Go.Shelf Go.Proofs Go.Maps Go.WideMaps
set_option linter.unusedVariables false
set_option linter.unusedSimpArgs false
namespace Dc
theorem kid_calls (dg mb : Nat) (gv ov : Value) (h : List NV) (opn : List Int) (names : List (List UInt8 × Int)) (at_ : Nat) (w W0 : World) (hB : Below w.heap.size w W0) (hlo : w.heap.size ≤ dg) (hk : W0.heap[dg]? = some (.cells #[gv, ov, .map (some mb)] 64 (0, 0))) (hR : Rep w.heap.size W0 h opn names gv ov mb)
    (hat : at_ < h.length) (hop : ∀ o ∈ opn, 0 ≤ o ∧ o.toNat < h.length) (hkl : ∀ i, i < h.length → (h.getD i default).1.kids.length ≤ 1000000) :
    Calls Tryd.prog 56 #[.pointer (some ⟨dg, 0, none⟩), .int .i64 (at_ : Int)] W0 fun e w' => ∃ h', e = .returned (.int .i64 (kidF ⟨h.map (·.1), opn, names⟩ at_).2) ∧ h'.map (·.1) = (kidF ⟨h.map (·.1), opn, names⟩ at_).1.nodes ∧ St w.heap.size W0 w' dg (Blk h gv ov mb) h' opn names gv ov mb ∧ w'.heap[dg]? = some (.cells #[gv, ov, .map (some mb)] 64 (0, 0)) := by
  rcases List.eq_nil_or_concat opn with rfl | ⟨pre, o, rfl⟩
  · exact kid_nil dg mb gv ov h names at_ w W0 hB hlo hk hR
  · rw [List.concat_eq_append] at *
    have ho := hop o (by simp)
    exact kid_top dg mb gv ov h pre o names at_ w W0 hB hlo hk hR hat ho.1 ho.2 (hkl _ ho.2)
theorem kidF_same (d : Dc) (at_ : Nat) : (kidF d at_).1.opn = d.opn ∧ (kidF d at_).1.names = d.names := by
  unfold kidF
  split
  · exact ⟨rfl, rfl⟩
  · split <;> exact ⟨rfl, rfl⟩
theorem kidF_eta {d : Dc} {at_ : Nat} {l : List Nd} (h : l = (kidF d at_).1.nodes) : (⟨l, d.opn, d.names⟩ : Dc) = (kidF d at_).1 := by
  rw [h, ← (kidF_same d at_).1, ← (kidF_same d at_).2]
def kindN (k : Int) : Int := if k = 2 then 1 else if k = 4 then 2 else 0
def nameF (d : Dc) (x : Evt.Ev) : List (List UInt8 × Int) := if x.anchor.toList.isEmpty = true then d.names else (x.anchor.data.toList, (d.nodes.length : Int)) :: d.names
def nodeF (d : Dc) (x : Evt.Ev) : Dc × Int :=
  if 2000 ≤ d.nodes.length then (d, 16)
  else if (Evt.tagF x).2 = 0 then
    let r := kidF ⟨d.nodes ++ [⟨kindN x.kind, (Evt.tagF x).1, x.text, []⟩], d.opn, nameF d x⟩ d.nodes.length
    (if kindN x.kind = 0 then r.1 else { r.1 with opn := r.1.opn ++ [(d.nodes.length : Int)] }, r.2)
  else (d, (Evt.tagF x).2)
theorem nodeF_full {d : Dc} {x : Evt.Ev} (h : 2000 ≤ d.nodes.length) : nodeF d x = (d, 16) := by unfold nodeF; rw [if_pos h]
theorem nodeF_tag {d : Dc} {x : Evt.Ev} (h : ¬ 2000 ≤ d.nodes.length) (h2 : ¬ (Evt.tagF x).2 = 0) : nodeF d x = (d, (Evt.tagF x).2) := by unfold nodeF; rw [if_neg h, if_neg h2]
theorem nodeF_ok {d : Dc} {x : Evt.Ev} (h : ¬ 2000 ≤ d.nodes.length) (h2 : (Evt.tagF x).2 = 0) {k : Int} (hk : kindN x.kind = k) {nm : List (List UInt8 × Int)} (hn : nameF d x = nm) : nodeF d x = (if k = 0 then (kidF ⟨d.nodes ++ [⟨k, (Evt.tagF x).1, x.text, []⟩], d.opn, nm⟩ d.nodes.length).1 else { (kidF ⟨d.nodes ++ [⟨k, (Evt.tagF x).1, x.text, []⟩], d.opn, nm⟩ d.nodes.length).1 with opn := (kidF ⟨d.nodes ++ [⟨k, (Evt.tagF x).1, x.text, []⟩], d.opn, nm⟩ d.nodes.length).1.opn ++ [(d.nodes.length : Int)] }, (kidF ⟨d.nodes ++ [⟨k, (Evt.tagF x).1, x.text, []⟩], d.opn, nm⟩ d.nodes.length).2) := by
  unfold nodeF; rw [if_neg h, if_pos h2, hk, hn]
theorem kindN_2 {k : Int} (h : k = 2) : kindN k = 1 := by unfold kindN; rw [if_pos h]
theorem kindN_4 {k : Int} (h0 : ¬ k = 2) (h : k = 4) : kindN k = 2 := by unfold kindN; rw [if_neg h0, if_pos h]
theorem kindN_0 {k : Int} (h0 : ¬ k = 2) (h : ¬ k = 4) : kindN k = 0 := by unfold kindN; rw [if_neg h0, if_neg h]
theorem wf_nat {n : Nat} (h : n ≤ 9223372036854775807) : (Lit.int .i64 (n : Int)).wf = true := by
  have h0 := Eng.i64_id (x := (n : Int)) (by omega) (by omega)
  have hm : IntKind.i64.min = -9223372036854775808 := by decide
  simp [Lit.wf, h0, hm]; omega
theorem ap_snoc {w : World} {h : List NV} {gv ov v' : Value} {mb g : Nat} {n : Nd} (ap : ¬ Blk h gv ov mb g) (hlt : g < w.heap.size) (E : v'.ownBlock = gv.ownBlock ∨ v'.ownBlock = some w.heap.size) : ¬ Blk (h ++ [(n, .slice none 0 0)]) v' ov mb g := by
  rintro (e | e | ⟨i, hi, e⟩ | e)
  · rcases E with h1 | h1
    · exact ap (.inl (e.trans h1))
    · rw [h1] at e; injection e with e; omega
  · exact ap (.inr (.inl e))
  · rcases lt_snoc hi with hi | rfl
    · rw [getD_snoc_lt _ hi] at e; exact ap (.inr (.inr (.inl ⟨i, hi, e⟩)))
    · rw [getD_snoc_last] at e; cases e
  · exact ap (.inr (.inr (.inr e)))
theorem box_map {w : World} {g mb B : Nat} {T : TypeId} {cs : Array Value} {names : List (List UInt8 × Int)} (hk : w.heap[g]? = some (.cells cs T (0, 0))) (M : MapRep B w mb names) : some g ≠ some mb := by
  intro e; injection e with e; subst e
  obtain ⟨es, c, hm⟩ := M.map; rw [hk] at hm; cases hm
theorem snoc_kids {h : List NV} {n : Nd} (hn : n.kids = []) (hkl : ∀ i, i < h.length → (h.getD i default).1.kids.length ≤ 1000000) : ∀ i, i < (h ++ [(n, Value.slice none 0 0)]).length → ((h ++ [(n, Value.slice none 0 0)]).getD i default).1.kids.length ≤ 1000000 := by
  intro i hi
  rcases lt_snoc hi with hi | rfl
  · rw [getD_snoc_lt _ hi]; exact hkl i hi
  · rw [getD_snoc_last, hn]; simp
theorem snoc_map {h : List NV} {n : Nd} : (h ++ [(n, Value.slice none 0 0)]).map (·.1) = h.map (·.1) ++ [n] := by simp
end Dc
end Go.Proofs.YtgnmjaacnmkgnaaDoor.X
end
