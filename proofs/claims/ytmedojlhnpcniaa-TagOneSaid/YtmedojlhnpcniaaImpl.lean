/- What the printed functions of tags answer, as plain functions on lists of bytes; texts of at most 450 bytes, rounds enough. -/
import Derived.Test.YtmedojlhnpcniaaX
import Derived.Test.YtmedojlhnpcniaaPlain
set_option linter.unusedSimpArgs false
namespace Go.Proofs.Ytmedojlhnpcniaa.Impl
open Go.RowKit Go.Proofs.Ytmedojlhnpcniaa.X Go.Proofs.YtmedojlhnpcniaaW.PrintWords Go.Proofs.YtmedojlhnpcniaaW.PrintLast
open Go.Proofs.Ytmedojlhnpcniaa.Bytes Go.Proofs.Ytmedojlhnpcniaa.Plain

abbrev ba (l : List UInt8) : ByteArray := ⟨l.toArray⟩

theorem ofNat_int (c : UInt8) (n : Nat) (h : n < 256) : ((c.toNat : Int) = (n : Int)) ↔ c = UInt8.ofNat n := by
  constructor
  · intro e; apply UInt8.toNat_inj.mp; rw [UInt8.toNat_ofNat']; omega
  · intro e; rw [e, UInt8.toNat_ofNat']; omega
theorem bt_zero (c : UInt8) (t : List UInt8) : bt (ba (c :: t)) 0 = (c.toNat : Int) := bt_mk _ _

theorem sign_eq (l : List UInt8) : tag_sign.f (ba l) = some (ba (sgn l)) := by
  unfold tag_sign.f
  rw [toList_mk]
  cases l with
  | nil => rfl
  | cons c t =>
    have h43 : ((c.toNat : Int) = 43) ↔ c = 43 := ofNat_int c 43 (by decide)
    have h45 : ((c.toNat : Int) = 45) ↔ c = 45 := ofNat_int c 45 (by decide)
    have he : (ba (c :: t)).extract 1 (c :: t).length = ba t := extract_all _ _
    have p0 : (0 : Int) < ((c :: t).length : Int) := by simp only [List.length_cons]; omega
    have p1 : (1 : Int) ≤ ((c :: t).length : Int) := by simp only [List.length_cons]; omega
    rw [if_neg (by simp), size_mk, if_pos p0, bt_zero, he, if_pos p1]
    unfold sgn
    simp only [h43, h45]
    by_cases h1 : c = 43
    · simp [h1]
    · by_cases h2 : c = 45 <;> simp [h1, h2]

theorem bare_eq (l : List UInt8) : grilleref03_bare.f (ba l) = some (ba (sgn l)) := sign_eq l

theorem pre_take (p l : List UInt8) : pre p l = (l.take p.length == p) := by
  unfold pre
  rw [Bool.eq_iff_iff, List.isPrefixOf_iff_prefix, List.prefix_iff_eq_take, beq_iff_eq]
  exact ⟨fun h => h.symm, fun h => h.symm⟩
theorem has_eq (l p : List UInt8) : stringslite_HasPrefix.f (ba l) (ba p) = some (pre p l) := by
  unfold stringslite_HasPrefix.f
  simp only [size_mk]
  by_cases h : p.length ≤ l.length
  · rw [if_pos (by omega), if_pos (by omega), if_pos (by omega), extract_mk, toList_mk, toList_mk, pre_take]
    simp
  · rw [if_neg (by omega)]
    have : pre p l = false := by
      rw [pre_take, beq_eq_false_iff_ne]; intro e
      have := congrArg List.length e; rw [List.length_take] at this; omega
    rw [this]
theorem pre_le {p l : List UInt8} (h : pre p l = true) : p.length ≤ l.length := by
  unfold pre at h; exact (List.isPrefixOf_iff_prefix.mp h).length_le
theorem cut_eq (l p : List UInt8) : strings_CutPrefix.f (ba l) (ba p) = some (if pre p l then (ba (l.drop p.length), true) else (ba l, false)) := by
  unfold strings_CutPrefix.f stringslite_CutPrefix.f
  rw [has_eq]
  simp only [Option.bind_some, size_mk]
  by_cases h : pre p l = true
  · have := pre_le h
    rw [if_pos h, if_pos (by omega), if_pos (by omega), if_pos h, Int.toNat_natCast, extract_all]
    rfl
  · rw [if_neg h, if_neg h]; rfl
theorem begins_eq (l p : List UInt8) : grilleref03_begins.f (ba l) (ba p) = some (pre p l) := has_eq l p

theorem value_eq (c : UInt8) (k : Nat) (hk : 2 ≤ k) : tag_value.f k (c.toNat : Int) = some (val c) :=
  at_rounds (g := fun k => tag_value.f k (c.toNat : Int)) (fun k => tag_value.mono _ k) hk (all_u8 (p := fun c => tag_value.f 2 (c.toNat : Int) = some (val c)) (by decide +kernel) c)

theorem digits_loop (l : List UInt8) (b : Int) (hl : l.length ≤ 140737488351232) (d : Nat) : ∀ (k n : Nat), n ≤ l.length → l.length - n = d → d + 3 ≤ k →
    tag_digits.l0 k (ba l) b (n : Int) = some (ba ((l.drop n).dropWhile (dig b)), ((n + ((l.drop n).takeWhile (dig b)).length : Nat) : Int)) := by
  induction d with
  | zero =>
    intro k n hn hd hk
    obtain ⟨k, rfl⟩ : ∃ m, k = m + 1 := ⟨k - 1, by omega⟩
    have hnl : n = l.length := by omega
    simp only [tag_digits.l0]
    rw [size_mk, if_neg (by omega), if_pos (by omega), if_pos (by omega), Int.toNat_natCast, extract_all, hnl, List.drop_length]
    simp
  | succ d ih =>
    intro k n hn hd hk
    obtain ⟨k, rfl⟩ : ∃ m, k = m + 1 := ⟨k - 1, by omega⟩
    have hlt : n < l.length := by omega
    simp only [tag_digits.l0]
    rw [size_mk, if_pos (by omega), if_pos (by omega), bt_nat l n hlt, value_eq _ _ (by omega)]
    simp only [Option.bind_some]
    rw [List.drop_eq_getElem_cons hlt, List.takeWhile_cons, List.dropWhile_cons]
    by_cases hv : val l[n] < b
    · have hd' : dig b l[n] = true := by unfold dig; simpa using hv
      rw [if_pos hv, wrap64_nat n (by omega), ih k (n + 1) (by omega) (by omega) (by omega), if_pos hd', if_pos hd', List.length_cons]
      congr 2; omega
    · have hd' : ¬ dig b l[n] = true := by unfold dig; simpa using hv
      rw [if_neg hv, if_pos (by omega), if_neg hd', if_neg hd', Int.toNat_natCast, extract_all, List.drop_eq_getElem_cons hlt]
      simp
theorem digits_eq (l : List UInt8) (b : Int) (k : Nat) (hl : l.length ≤ 450) (hk : 20000 ≤ k) :
    tag_digits.f k (ba l) b = some (ba (l.dropWhile (dig b)), ((l.takeWhile (dig b)).length : Int)) := by
  have := digits_loop l b (by omega) l.length k 0 (by omega) (by omega) (by omega)
  simpa [tag_digits.f] using this

theorem drop_nil (p : UInt8 → Bool) (l : List UInt8) : (l.dropWhile p = []) ↔ l.all p = true := by
  induction l with
  | nil => simp
  | cons c t ih =>
    rw [List.dropWhile_cons, List.all_cons]
    by_cases h : p c = true
    · rw [if_pos h, ih]; simp [h]
    · rw [if_neg h]; simp [h]
theorem take_all (p : UInt8 → Bool) (l : List UInt8) (h : l.all p = true) : l.takeWhile p = l := by
  have h2 := (split_at p l).1
  rw [(drop_nil p l).mpr h, List.append_nil] at h2; exact h2.symm

theorem all_eq (l : List UInt8) (b : Int) (k : Nat) (hl : l.length ≤ 450) (hk : 20000 ≤ k) : tag_all.f k (ba l) b = some (alld b l) := by
  unfold tag_all.f
  rw [digits_eq l b k hl hk]
  simp only [Option.bind_some, toList_mk]
  unfold alld
  by_cases h : l.all (dig b) = true
  · rw [if_pos ((drop_nil _ _).mpr h), take_all _ _ h, h]
    cases l <;> simp
  · rw [if_neg (fun e => h ((drop_nil _ _).mp e))]
    simp [h]

theorem sgn_le (l : List UInt8) : (sgn l).length ≤ l.length := by
  cases l with
  | nil => simp [sgn]
  | cons c t => show (if c = 43 ∨ c = 45 then t else c :: t).length ≤ _; split <;> simp
theorem drop_le (p : UInt8 → Bool) (l : List UInt8) : (l.dropWhile p).length ≤ l.length := (List.dropWhile_sublist p).length_le

theorem whole_some (l : List UInt8) (k : Nat) (hl : l.length ≤ 450) (hk : 20000 ≤ k) : tag_whole.f k (ba l) = some (whole l) := by
  unfold tag_whole.f whole
  have hs := sgn_le l
  rw [show (⟨#[48, 111]⟩ : ByteArray) = ba [48, 111] from rfl, show (⟨#[48, 120]⟩ : ByteArray) = ba [48, 120] from rfl, cut_eq, cut_eq, sign_eq]
  by_cases h1 : pre [48, 111] l = true
  · rw [if_pos h1, if_pos h1]
    simp only [Option.bind_some, if_true]
    rw [all_eq _ _ _ (by rw [List.length_drop]; omega) hk]
    rfl
  · rw [if_neg h1, if_neg h1]
    simp only [Option.bind_some, if_false, Bool.false_eq_true]
    by_cases h2 : pre [48, 120] l = true
    · rw [if_pos h2, if_pos h2]
      simp only [if_true]
      rw [all_eq _ _ _ (by rw [List.length_drop]; omega) hk]
      rfl
    · rw [if_neg h2, if_neg h2]
      simp only [if_false, Bool.false_eq_true]
      rw [all_eq _ _ _ (by omega) hk]
      rfl

theorem tail_eq (r : List UInt8) (a b : Nat) (k : Nat) (ha : a ≤ 450) (hb : b ≤ 450) (hl : r.length ≤ 450) (hk : 20001 ≤ k) :
    tag_real.j0 k (ba r) (a : Int) (b : Int) = some (tail2 (a + b) r) := by
  obtain ⟨k, rfl⟩ : ∃ m, k = m + 1 := ⟨k - 1, by omega⟩
  simp only [tag_real.j0]
  have hw : wrap64 ((a : Int) + (b : Int)) = ((a + b : Nat) : Int) := by unfold wrap64; omega
  rw [hw, toList_mk, size_mk]
  unfold tail2
  by_cases h0 : a + b = 0
  · rw [if_pos (by omega), if_pos h0]
  · rw [if_neg (by omega), if_neg h0]
    cases r with
    | nil => rfl
    | cons c u =>
      have h101 : ((c.toNat : Int) = 101) ↔ c = 101 := ofNat_int c 101 (by decide)
      have h69 : ((c.toNat : Int) = 69) ↔ c = 69 := ofNat_int c 69 (by decide)
      have he : (ba (c :: u)).extract 1 (c :: u).length = ba u := extract_all _ _
      have hs := sgn_le u
      have hu : (c :: u).length = u.length + 1 := rfl
      have p0 : (0 : Int) < ((c :: u).length : Int) := by simp only [List.length_cons]; omega
      have p1 : (1 : Int) ≤ ((c :: u).length : Int) := by simp only [List.length_cons]; omega
      have hsu : (sgn u).length ≤ 450 := by rw [hu] at hl; omega
      rw [if_neg (by simp), if_pos p0, bt_zero, if_pos p1, he, sign_eq]
      simp only [Option.bind_some, h101, h69]
      rw [all_eq _ _ _ hsu (by omega)]
      simp only [Option.bind_some]
      unfold isE
      by_cases h1 : c = 101
      · simp [h1]
      · by_cases h2 : c = 69 <;> simp [h1, h2]

theorem real_some (l : List UInt8) (k : Nat) (hl : l.length ≤ 450) (hk : 20001 ≤ k) : tag_real.f k (ba l) = some (real l) := by
  unfold tag_real.f real
  have hs := sgn_le l
  rw [sign_eq]
  simp only [Option.bind_some]
  generalize sgn l = t at *
  have h1 := (List.takeWhile_sublist (dig 10) (l := t)).length_le
  have h2 := drop_le (dig 10) t
  rw [digits_eq t 10 k (by omega) (by omega)]
  simp only [Option.bind_some]
  rw [show (⟨#[46]⟩ : ByteArray) = ba [46] from rfl, cut_eq]
  cases hd : t.dropWhile (dig 10) with
  | nil =>
    rw [if_neg (by decide)]
    simp only [Option.bind_some, Bool.false_eq_true, if_false]
    exact tail_eq [] _ 0 k (by omega) (by omega) (by simp) hk
  | cons c u =>
    rw [hd] at h2
    have hu : (c :: u).length = u.length + 1 := rfl
    have hp : pre [46] (c :: u) = (46 == c) := by unfold pre; simp [List.isPrefixOf]
    by_cases h46 : c = 46
    · subst h46
      rw [if_pos (by rw [hp]; rfl)]
      simp only [Option.bind_some, if_true, List.length_singleton, List.drop_succ_cons, List.drop_zero]
      have h3 := (List.takeWhile_sublist (dig 10) (l := u)).length_le
      have h4 := drop_le (dig 10) u
      rw [digits_eq u 10 k (by omega) (by omega)]
      simp only [Option.bind_some]
      exact tail_eq _ _ _ k (by omega) (by omega) (by omega) hk
    · rw [if_neg (by rw [hp]; simp; exact fun e => h46 e.symm)]
      simp only [Option.bind_some, Bool.false_eq_true, if_false]
      rw [if_neg h46]
      exact tail_eq (c :: u) _ 0 k (by omega) (by omega) (by omega) hk

theorem one_loop (l : List UInt8) (L : List (List UInt8)) (hL : L.length ≤ 1000) (d : Nat) : ∀ (k n : Nat), n ≤ L.length → L.length - n = d → d < k →
    grilleref03_one.l0 k (ba l) (L.map ba) (n : Int) = some (decide (l ∈ L.drop n)) := by
  induction d with
  | zero =>
    intro k n hn hd hk
    obtain ⟨k, rfl⟩ : ∃ m, k = m + 1 := ⟨k - 1, by omega⟩
    have hnl : n = L.length := by omega
    simp only [grilleref03_one.l0]
    rw [List.length_map, if_neg (by omega), hnl, List.drop_length]
    simp
  | succ d ih =>
    intro k n hn hd hk
    obtain ⟨k, rfl⟩ : ∃ m, k = m + 1 := ⟨k - 1, by omega⟩
    have hlt : n < L.length := by omega
    simp only [grilleref03_one.l0]
    have hr : rdOf ByteArray.empty (L.map ba) (n : Int) = ba L[n] := by
      unfold rdOf
      rw [Int.toNat_natCast, List.getD_eq_getElem?_getD, List.getElem?_map, List.getElem?_eq_getElem hlt]; rfl
    rw [List.length_map, if_pos (by omega), if_pos (by omega), hr, toList_mk, toList_mk, wrap64_nat n (by omega), ih k (n + 1) (by omega) (by omega) (by omega), List.drop_eq_getElem_cons hlt]
    by_cases h : L[n] = l
    · simp [h]
    · rw [if_neg h]
      have h' : ¬ l = L[n] := fun e => h e.symm
      simp only [List.mem_cons, h', false_or]
theorem one_eq (l : List UInt8) (L : List (List UInt8)) (k : Nat) (hL : L.length ≤ 1000) (hk : 20000 ≤ k) : grilleref03_one.f k (ba l) (L.map ba) = some (decide (l ∈ L)) := by
  have := one_loop l L hL L.length k 0 (by omega) (by omega) (by omega)
  simpa [grilleref03_one.f] using this

theorem only_inner (l of : List UInt8) (i : Nat) (hi : i < l.length) (hof : of.length ≤ 1000) (d : Nat) : ∀ (k n : Nat) (b : Bool), n ≤ of.length → of.length - n = d →
    grilleref03_only.l1 (k + d + 1) (ba l) (ba of) (i : Int) b (n : Int) = if b || (of.drop n).contains l[i] then grilleref03_only.l0 k (ba l) (ba of) (wrap64 ((i : Int) + 1)) else some false := by
  induction d with
  | zero =>
    intro k n b hn hd
    have hnl : n = of.length := by omega
    simp only [grilleref03_only.l1]
    rw [size_mk, if_neg (by omega), hnl, List.drop_length]
    cases b <;> simp
  | succ d ih =>
    intro k n b hn hd
    have hlt : n < of.length := by omega
    rw [show k + (d + 1) + 1 = (k + d + 1) + 1 from by omega]
    have ih1 := fun b => ih k (n + 1) b (by omega) (by omega)
    generalize k + d + 1 = K at ih1 ⊢
    simp only [grilleref03_only.l1]
    rw [size_mk, if_pos (by omega), wrap64_nat n (by omega)]
    cases b with
    | true => rw [if_pos rfl, ih1]; simp
    | false =>
      rw [if_neg (by decide), size_mk, if_pos (by omega), if_pos (by omega), if_pos (by omega), ih1, bt_nat of n hlt, bt_nat l i hi, List.drop_eq_getElem_cons hlt, List.contains_cons]
      have : ((of[n].toNat : Int) == (l[i].toNat : Int)) = (l[i] == of[n]) := by
        rw [Bool.eq_iff_iff, beq_iff_eq, beq_iff_eq]; exact ⟨fun e => (toNat_inj.mp e).symm, fun e => toNat_inj.mpr e.symm⟩
      rw [this]; simp
theorem only_loop (l of : List UInt8) (hl : l.length ≤ 1000) (hof : of.length ≤ 1000) (d : Nat) : ∀ (n : Nat), n ≤ l.length → l.length - n = d →
    grilleref03_only.l0 (d * (of.length + 2) + 1) (ba l) (ba of) (n : Int) = some ((l.drop n).all of.contains && !l.isEmpty) := by
  induction d with
  | zero =>
    intro n hn hd
    have hnl : n = l.length := by omega
    rw [Nat.zero_mul]
    simp only [grilleref03_only.l0]
    rw [size_mk, if_neg (by omega), toList_mk, hnl, List.drop_length]
    cases l <;> simp
  | succ d ih =>
    intro n hn hd
    have hlt : n < l.length := by omega
    rw [show (d + 1) * (of.length + 2) + 1 = (((d * (of.length + 2) + 1) + of.length + 1)) + 1 from by rw [Nat.add_mul]; omega]
    simp only [grilleref03_only.l0]
    have hin := only_inner l of n hlt hof of.length (d * (of.length + 2) + 1) 0 false (by omega) (by omega)
    rw [show ((0 : Nat) : Int) = 0 from rfl] at hin
    rw [size_mk, if_pos (by omega), hin, wrap64_nat n (by omega), ih (n + 1) (by omega) (by omega), List.drop_zero, List.drop_eq_getElem_cons hlt, List.all_cons]
    by_cases hc : of.contains l[n] = true
    · rw [if_pos (by simpa using hc), hc]; simp
    · rw [if_neg (by simpa using hc), Bool.eq_false_iff.mpr hc, Bool.false_and, Bool.false_and]
theorem only_eq (l of : List UInt8) (k : Nat) (hl : l.length ≤ 450) (hof : of.length ≤ 64) (hk : 30000 ≤ k) : grilleref03_only.f k (ba l) (ba of) = some (only l of) := by
  have h := only_loop l of (by omega) (by omega) l.length 0 (by omega) (by omega)
  have hb : l.length * (of.length + 2) + 1 ≤ k := by
    have : l.length * (of.length + 2) ≤ 450 * 66 := Nat.mul_le_mul hl (by omega)
    omega
  refine at_rounds (g := fun k => grilleref03_only.f k (ba l) (ba of)) (fun k => grilleref03_only.mono _ _ k) hb ?_
  simpa [grilleref03_only.f, only] using h

theorem find_loop (l : List UInt8) (a b : Int) (p : UInt8 → Bool) (hp : ∀ c : UInt8, p c = true ↔ ((c.toNat : Int) = a ∨ (c.toNat : Int) = b)) (hl : l.length ≤ 1000) (d : Nat) : ∀ (k n : Nat), n ≤ l.length → l.length - n = d → d < k →
    grilleref03_find.l0 k (ba l) a b (n : Int) = some ((n + ((l.drop n).takeWhile (fun c => !p c)).length : Nat) : Int) := by
  induction d with
  | zero =>
    intro k n hn hd hk
    obtain ⟨k, rfl⟩ : ∃ m, k = m + 1 := ⟨k - 1, by omega⟩
    have hnl : n = l.length := by omega
    simp only [grilleref03_find.l0]
    rw [size_mk, if_neg (by omega), hnl, List.drop_length]
    simp
  | succ d ih =>
    intro k n hn hd hk
    obtain ⟨k, rfl⟩ : ∃ m, k = m + 1 := ⟨k - 1, by omega⟩
    have hlt : n < l.length := by omega
    simp only [grilleref03_find.l0]
    rw [size_mk, if_pos (by omega), if_pos (by omega), bt_nat l n hlt, wrap64_nat n (by omega), ih k (n + 1) (by omega) (by omega) (by omega), List.drop_eq_getElem_cons hlt, List.takeWhile_cons]
    by_cases h : p l[n] = true
    · have hnp : ¬ (!p l[n]) = true := by simp [h]
      rw [if_neg hnp]
      rcases (hp _).mp h with h1 | h1
      · rw [if_pos h1]; simp
      · by_cases h2 : (l[n].toNat : Int) = a
        · rw [if_pos h2]; simp
        · rw [if_neg h2, if_pos h1]; simp
    · have h1 : ¬ (l[n].toNat : Int) = a := fun e => h ((hp _).mpr (.inl e))
      have h2 : ¬ (l[n].toNat : Int) = b := fun e => h ((hp _).mpr (.inr e))
      rw [if_neg h1, if_neg h2, if_pos (by simp [h]), List.length_cons]
      congr 2; omega
theorem find_eq (l : List UInt8) (a b : Int) (p : UInt8 → Bool) (k : Nat) (hp : ∀ c : UInt8, p c = true ↔ ((c.toNat : Int) = a ∨ (c.toNat : Int) = b)) (hl : l.length ≤ 450) (hk : 20000 ≤ k) :
    grilleref03_find.f k (ba l) a b = some ((l.takeWhile (fun c => !p c)).length : Int) := by
  have := find_loop l a b p hp (by omega) l.length k 0 (by omega) (by omega) (by omega)
  simpa [grilleref03_find.f] using this
theorem dot_iff (c : UInt8) : (c == 46) = true ↔ ((c.toNat : Int) = 46 ∨ (c.toNat : Int) = 46) := by
  rw [beq_iff_eq, or_self]; exact (ofNat_int c 46 (by decide)).symm
theorem e_iff (c : UInt8) : isE c = true ↔ ((c.toNat : Int) = 101 ∨ (c.toNat : Int) = 69) := by
  have h101 : ((c.toNat : Int) = 101) ↔ c = 101 := ofNat_int c 101 (by decide)
  have h69 : ((c.toNat : Int) = 69) ↔ c = 69 := ofNat_int c 69 (by decide)
  rw [h101, h69]; simp [isE]

theorem fraction_eq (m : List UInt8) (k : Nat) (hl : m.length ≤ 450) (hk : 30000 ≤ k) : grilleref03_fraction.f k (ba m) = some (fraction m) := by
  unfold grilleref03_fraction.f fraction
  rw [find_eq m 46 46 _ k dot_iff hl (by omega)]
  simp only [Option.bind_some, size_mk]
  have hs := (split_at (fun c => !(c == 46)) m).1
  generalize hh : m.takeWhile (fun c => !(c == 46)) = h at *
  generalize hr : m.dropWhile (fun c => !(c == 46)) = r at *
  subst hs
  rw [List.length_append] at hl
  rw [List.length_append]
  have t1 : (⟨#[48, 49, 50, 51, 52, 53, 54, 55, 56, 57]⟩ : ByteArray) = ba ten := rfl
  rw [t1]
  cases r with
  | nil =>
    rw [if_pos (by simp), List.append_nil, only_eq h ten k (by omega) (by decide) hk]
    rfl
  | cons c u =>
    have hlen : (c :: u).length = u.length + 1 := rfl
    have hne : ¬ ((h.length : Int) = ((h.length + (c :: u).length : Nat) : Int)) := by rw [hlen]; omega
    have q0 : (0 : Int) ≤ ((h.length + 1 : Nat) : Int) := by omega
    have q1 : ((h.length + 1 : Nat) : Int) ≤ ((h.length + (c :: u).length : Nat) : Int) := by rw [hlen]; omega
    have q2 : (h.length : Int) ≤ ((h.length + (c :: u).length : Nat) : Int) := by omega
    have q3 : (0 : Int) ≤ (h.length : Int) := by omega
    have e1 : (ba (h ++ c :: u)).extract (h.length + 1) (h.length + (c :: u).length) = ba u := by
      have := extract_all (h ++ c :: u) (h.length + 1)
      rw [List.length_append] at this
      rw [this]
      congr 1; congr 1
      rw [List.drop_append]; simp
    have e2 : (ba (h ++ c :: u)).extract 0 h.length = ba h := by rw [extract_mk]; simp
    rw [if_neg hne, wrap64_nat _ (by omega), if_pos q0, if_pos q1, Int.toNat_natCast, Int.toNat_natCast, e1, e2, only_eq u ten k (by rw [hlen] at hl; omega) (by decide) hk, only_eq h ten k (by omega) (by decide) hk, if_pos q3, if_pos q2, toList_mk]
    simp only [Option.bind_some]
    by_cases hz : h = []
    · subst hz; simp
    · have hz' : ¬ ((h.length : Int) = 0) := by
        intro e; apply hz; cases h with
        | nil => rfl
        | cons _ _ => simp at e; omega
      rw [if_neg hz', if_neg hz]
      cases only h ten with
      | false => simp
      | true =>
        rw [if_pos rfl]
        cases u with
        | nil => simp
        | cons _ _ => simp
end Go.Proofs.Ytmedojlhnpcniaa.Impl
