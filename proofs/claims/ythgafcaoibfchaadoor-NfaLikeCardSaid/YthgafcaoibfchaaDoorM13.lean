/- Words and walks that the row of NfaLike needs: printed by programs, and plain laws. -/
import Derived.Test.YthgafcaoibfchaaDoorM4
import Derived.Test.YthgafcaoibfchaaDoorM3
section
namespace Go.Proofs.YthgafcaoibfchaaDoor.X
open Go Go.RowKit Go.Shelf Go.Proofs Go.Proofs.YthgafcaoibfchaaDoorW.PrintWords Go.Proofs.YthgafcaoibfchaaDoorW.PrintLast Go.Proofs.YthgafcaoibfchaaDoorW.PrintMore
set_option linter.unusedVariables false
set_option linter.unusedSimpArgs false
namespace Nfa
def bv (x : Int) : BitVec 64 := BitVec.ofInt 64 x
theorem wrap_nat (A : BitVec 64) : IntKind.u64.wrap (A.toNat : Int) = (A.toNat : Int) := by
  have h := A.isLt
  simp only [IntKind.wrap, IntKind.bits, IntKind.signed, Bool.false_and, Bool.false_eq_true, if_false]
  omega
theorem bits_or (x y : Int) : Go.bits .or .u64 x y = ((bv x ||| bv y).toNat : Int) := wrap_nat _
theorem bits_and (x y : Int) : Go.bits .and .u64 x y = ((bv x &&& bv y).toNat : Int) := wrap_nat _
theorem bv_cast (n : Nat) : bv (n : Int) = BitVec.ofNat 64 n := by unfold bv; rw [BitVec.ofInt_natCast]
theorem bit_and (X r : Nat) (hr : r < 64) : (Go.bits .and .u64 (shr .u64 (X : Int) (r : Int)) 1 == 1) = X.testBit r := by
  have h1 : shr .u64 (X : Int) (r : Int) = ((X / 2 ^ r : Nat) : Int) := by
    rw [← shr_eq _ hr]; simp
  rw [h1, bits_and, bv_cast, show bv 1 = BitVec.ofNat 64 1 from rfl, BitVec.toNat_and, BitVec.toNat_ofNat, BitVec.toNat_ofNat, Nat.testBit_eq_decide_div_mod_eq]
  have h2 : X / 2 ^ r % 2 ^ 64 &&& 1 % 2 ^ 64 = X / 2 ^ r % 2 := by
    rw [show 1 % 2 ^ 64 = 1 from rfl, Nat.and_one_is_mod]
    omega
  rw [h2, Bool.eq_iff_iff, beq_iff_eq, decide_eq_true_eq]
  omega
theorem bit_or (X r : Nat) (hX : X < 2 ^ 64) (hr : r < 64) : Go.bits .or .u64 (X : Int) (shl .u64 1 (r : Int)) = ((X ||| 2 ^ r : Nat) : Int) ∧ X ||| 2 ^ r < 2 ^ 64 := by
  have hp : (2 : Nat) ^ r < 2 ^ 64 := Nat.pow_lt_pow_right (by omega) hr
  have h1 : shl .u64 1 (r : Int) = ((2 ^ r : Nat) : Int) := by
    rw [← shl_eq _ hr, Int.one_mul]
    have h2 : ((2 : Int) ^ r) = ((2 ^ r : Nat) : Int) := by simp
    rw [h2]
    have hw : ∀ q : Nat, q < 2 ^ 64 → IntKind.u64.wrap (q : Int) = (q : Int) := by
      intro q hq
      simp only [IntKind.wrap, IntKind.bits, IntKind.signed, Bool.false_and, Bool.false_eq_true, if_false]
      omega
    exact hw _ hp
  have h3 : X ||| 2 ^ r < 2 ^ 64 := Nat.or_lt_two_pow hX hp
  refine ⟨?_, h3⟩
  rw [h1, bits_or, bv_cast, bv_cast, BitVec.toNat_or, BitVec.toNat_ofNat, BitVec.toNat_ofNat, Nat.mod_eq_of_lt hX, Nat.mod_eq_of_lt hp]
structure Good (s : List Int) : Prop where
  len : s.length = 8
  lo : ∀ i, i < 8 → 0 ≤ at_ s i
  hi : ∀ i, i < 8 → at_ s i < 18446744073709551616
theorem good0 : Good (List.replicate 8 0) := by
  refine ⟨by simp, fun i hi => ?_, fun i hi => ?_⟩ <;> (unfold at_; rw [List.getD_eq_getElem?_getD, List.getElem?_replicate]; split <;> simp)
theorem has_eq {s : List Int} (hg : Good s) {n : Nat} (hn : n < 512) : has s (n : Int) = (at_ s (n / 64)).toNat.testBit (n % 64) := by
  have hd : n / 64 < 8 := by omega
  obtain ⟨X, hX⟩ := Int.eq_ofNat_of_zero_le (hg.lo _ hd)
  unfold has
  rw [Int.toNat_natCast, hX, bit_and X _ (by omega), Int.toNat_natCast]
  have h1 : decide ((n : Int) ≥ 0) = true := by simp
  have h2 : decide ((n : Int) < 512) = true := by simp; omega
  rw [h1, h2]; simp
theorem at_set (s : List Int) (i j : Nat) (x : Int) (hi : i < s.length) : at_ (s.set i x) j = if i = j then x else at_ s j := by
  unfold at_
  rw [List.getD_eq_getElem?_getD, List.getD_eq_getElem?_getD, List.getElem?_set]
  by_cases h : i = j
  · subst h; rw [if_pos rfl, if_pos rfl, if_pos hi]; rfl
  · rw [if_neg h, if_neg h]
theorem put_eq {s : List Int} (hg : Good s) {n : Nat} (hn : n < 512) : put s (n : Int) = s.set (n / 64) (((at_ s (n / 64)).toNat ||| 2 ^ (n % 64) : Nat) : Int) ∧ (at_ s (n / 64)).toNat ||| 2 ^ (n % 64) < 2 ^ 64 := by
  have hd : n / 64 < 8 := by omega
  obtain ⟨X, hX⟩ := Int.eq_ofNat_of_zero_le (hg.lo _ hd)
  have hlt : X < 2 ^ 64 := by have := hg.hi _ hd; rw [hX] at this; omega
  have h := bit_or X (n % 64) hlt (by omega)
  rw [put_in (by omega) (by omega), Int.toNat_natCast, hX, Int.toNat_natCast, h.1]
  exact ⟨rfl, h.2⟩
theorem good_put {s : List Int} (hg : Good s) (n : Int) : Good (put s n) := by
  by_cases h : 0 ≤ n ∧ n < 512
  · obtain ⟨m, rfl⟩ := Int.eq_ofNat_of_zero_le h.1
    obtain ⟨h1, h2⟩ := put_eq hg (show m < 512 by omega)
    rw [h1]
    have hd : m / 64 < s.length := by rw [hg.len]; omega
    refine ⟨by rw [List.length_set]; exact hg.len, fun i hi => ?_, fun i hi => ?_⟩
    · rw [at_set _ _ _ _ hd]; split
      · omega
      · exact hg.lo i hi
    · rw [at_set _ _ _ _ hd]; split
      · omega
      · exact hg.hi i hi
  · rw [put_out (by omega)]; exact hg
theorem has_put {s : List Int} (hg : Good s) {n m : Nat} (hn : n < 512) (hm : m < 512) : has (put s (n : Int)) (m : Int) = (has s (m : Int) || decide (n = m)) := by
  rw [has_eq (good_put hg _) hm, has_eq hg hm, (put_eq hg hn).1]
  have hd : n / 64 < s.length := by rw [hg.len]; omega
  rw [at_set _ _ _ _ hd]
  by_cases h : n / 64 = m / 64
  · rw [if_pos h, Int.toNat_natCast, Nat.testBit_or, Nat.testBit_two_pow, h]
    congr 1
    rw [Bool.eq_iff_iff, decide_eq_true_eq, decide_eq_true_eq]
    omega
  · rw [if_neg h]
    have : decide (n = m) = false := by rw [decide_eq_false_iff_not]; intro e; exact h (by rw [e])
    rw [this, Bool.or_false]
theorem has0 (m : Nat) (hm : m < 512) : has (List.replicate 8 0) (m : Int) = false := by
  rw [has_eq good0 hm]
  have : at_ (List.replicate 8 0) (m / 64) = 0 := by
    unfold at_; rw [List.getD_eq_getElem?_getD, List.getElem?_replicate, if_pos (by omega)]; rfl
  rw [this]; simp
def off (ps : List (List Pth.Part)) : Nat → Nat
  | 0 => 0
  | k + 1 => off ps k + ((ps.getD k []).length + 1)
structure Ok (ps : List (List Pth.Part)) : Prop where
  m : ∀ k, k ≤ ps.length → many ps k = (off ps k : Int)
  le : off ps ps.length ≤ 512
theorem off_mono (ps : List (List Pth.Part)) {a b : Nat} (h : a ≤ b) : off ps a ≤ off ps b := by
  induction b with
  | zero => have : a = 0 := by omega
            rw [this]; exact Nat.le_refl _
  | succ b ih =>
    rcases Nat.lt_or_ge a (b + 1) with h1 | h1
    · have := ih (by omega); show off ps a ≤ off ps b + _; omega
    · have : a = b + 1 := by omega
      rw [this]; exact Nat.le_refl _
theorem off_lt {ps : List (List Pth.Part)} (hok : Ok ps) {a k : Nat} (ha : a < ps.length) (hk : k ≤ (ps.getD a []).length) : off ps a + k < 512 := by
  have h1 := off_mono ps (show a + 1 ≤ ps.length by omega)
  have h2 := hok.le
  have h3 : off ps (a + 1) = off ps a + ((ps.getD a []).length + 1) := rfl
  omega
theorem off_ne {ps : List (List Pth.Part)} {a b k j : Nat} (hne : b ≠ a) (hk : k ≤ (ps.getD a []).length) (hj : j ≤ (ps.getD b []).length) : off ps b + j ≠ off ps a + k := by
  have ea : off ps (a + 1) = off ps a + ((ps.getD a []).length + 1) := rfl
  have eb : off ps (b + 1) = off ps b + ((ps.getD b []).length + 1) := rfl
  rcases Nat.lt_or_ge a b with h | h
  · have := off_mono ps (show a + 1 ≤ b by omega); omega
  · have := off_mono ps (show b + 1 ≤ a by omega); omega
abbrev bsOf (ps : List (List Pth.Part)) : List Int := begs ps ps.length
theorem begin_eq {ps : List (List Pth.Part)} (hok : Ok ps) {a : Nat} (ha : a < ps.length) : beginF (bsOf ps) (a : Int) = (off ps a : Int) := by
  unfold beginF
  rw [begs_len, if_neg (by omega), Int.toNat_natCast]
  unfold bsOf begs
  rw [List.getD_eq_getElem?_getD, List.getElem?_map, List.getElem?_range ha]
  exact hok.m a (by omega)
theorem wrap_nat' {n : Nat} (h : n < 1000000) : IntKind.i64.wrap (n : Int) = (n : Int) := Eng.i64_id (by omega) (by omega)
theorem item_eq {ps : List (List Pth.Part)} (hok : Ok ps) {a j : Nat} (ha : a < ps.length) (hj : j ≤ (ps.getD a []).length) : item ps (bsOf ps) a j = (((off ps a + j : Nat) : Int), (ps.getD a []).getD j default) := by
  unfold item
  rw [begin_eq hok ha]
  have := off_lt hok ha hj
  have h : ((off ps a : Int) + (j : Int)) = ((off ps a + j : Nat) : Int) := by omega
  rw [h, wrap_nat' (by omega)]
theorem next_eq {ps : List (List Pth.Part)} (hok : Ok ps) {a j : Nat} (ha : a < ps.length) (hj : j < (ps.getD a []).length) : IntKind.i64.wrap (((off ps a + j : Nat) : Int) + 1) = ((off ps a + (j + 1) : Nat) : Int) := by
  have := off_lt hok ha (show j + 1 ≤ _ from hj)
  have h : (((off ps a + j : Nat) : Int) + 1) = ((off ps a + (j + 1) : Nat) : Int) := by omega
  rw [h, wrap_nat' (by omega)]
def Puts (f : List Int → It → List Int) : Prop := ∀ s x, f s x = s ∨ f s x = put s x.1 ∨ f s x = put s (IntKind.i64.wrap (x.1 + 1))
theorem foreign {ps : List (List Pth.Part)} (hok : Ok ps) {f : List Int → It → List Int} (hf : Puts f) {s : List Int} (hg : Good s) {a b j k : Nat} (ha : a < ps.length) (hb : b < ps.length) (hne : b ≠ a) (hj : j < (ps.getD b []).length) (hk : k ≤ (ps.getD a []).length) :
    Good (f s (item ps (bsOf ps) b j)) ∧ has (f s (item ps (bsOf ps) b j)) ((off ps a + k : Nat) : Int) = has s ((off ps a + k : Nat) : Int) := by
  have hm := off_lt hok ha hk
  rw [item_eq hok hb (Nat.le_of_lt hj)]
  rcases hf s ((((off ps b + j : Nat) : Int)), (ps.getD b []).getD j default) with h | h | h
  · rw [h]; exact ⟨hg, rfl⟩
  · rw [h]
    refine ⟨good_put hg _, ?_⟩
    rw [has_put hg (off_lt hok hb (Nat.le_of_lt hj)) hm]
    have : decide (off ps b + j = off ps a + k) = false := decide_eq_false (off_ne hne hk (Nat.le_of_lt hj))
    rw [this, Bool.or_false]
  · rw [h]
    refine ⟨good_put hg _, ?_⟩
    simp only
    rw [next_eq hok hb hj, has_put hg (off_lt hok hb (show j + 1 ≤ _ from hj)) hm]
    have : decide (off ps b + (j + 1) = off ps a + k) = false := decide_eq_false (off_ne hne hk hj)
    rw [this, Bool.or_false]
theorem foreigns {ps : List (List Pth.Part)} (hok : Ok ps) {f : List Int → It → List Int} (hf : Puts f) {a : Nat} (ha : a < ps.length) : ∀ (L : List Nat) (s : List Int), (∀ b ∈ L, b < ps.length ∧ b ≠ a) → Good s →
    Good ((L.flatMap fun i => (List.range (ps.getD i []).length).map (item ps (bsOf ps) i)).foldl f s) ∧ ∀ k, k ≤ (ps.getD a []).length → has ((L.flatMap fun i => (List.range (ps.getD i []).length).map (item ps (bsOf ps) i)).foldl f s) ((off ps a + k : Nat) : Int) = has s ((off ps a + k : Nat) : Int)
  | [], s, _, hg => ⟨hg, fun _ _ => rfl⟩
  | b :: L, s, hL, hg => by
    obtain ⟨hb, hne⟩ := hL b List.mem_cons_self
    have one : ∀ n, n ≤ (ps.getD b []).length → Good (((List.range n).map (item ps (bsOf ps) b)).foldl f s) ∧ ∀ k, k ≤ (ps.getD a []).length → has (((List.range n).map (item ps (bsOf ps) b)).foldl f s) ((off ps a + k : Nat) : Int) = has s ((off ps a + k : Nat) : Int) := by
      intro n
      induction n with
      | zero => intro _; exact ⟨hg, fun _ _ => rfl⟩
      | succ n ih =>
        intro hn
        obtain ⟨g1, h1⟩ := ih (by omega)
        rw [List.range_succ, List.map_append, List.foldl_append]
        exact ⟨(foreign hok hf g1 (k := 0) ha hb hne (by omega) (Nat.zero_le _)).1, fun k hk => ((foreign hok hf g1 ha hb hne (by omega) hk).2).trans (h1 k hk)⟩
    obtain ⟨g1, h1⟩ := one _ (Nat.le_refl _)
    rw [List.flatMap_cons, List.foldl_append]
    obtain ⟨g2, h2⟩ := foreigns hok hf ha L _ (fun c hc => hL c (List.mem_cons_of_mem _ hc)) g1
    exact ⟨g2, fun k hk => (h2 k hk).trans (h1 k hk)⟩
theorem split_range {a n : Nat} (h : a < n) : List.range n = List.range a ++ a :: List.range' (a + 1) (n - (a + 1)) := by
  obtain ⟨d, rfl⟩ := Nat.exists_eq_add_of_lt h
  rw [show a + d + 1 - (a + 1) = d by omega, List.range_eq_range', List.range_eq_range', show a + d + 1 = a + (d + 1) by omega, List.range'_append_1.symm, Nat.zero_add, List.range'_succ]
theorem own_only {ps : List (List Pth.Part)} (hok : Ok ps) {f : List Int → It → List Int} (hf : Puts f) {a : Nat} (ha : a < ps.length) {s : List Int} (hg : Good s) :
    ∃ s1, Good s1 ∧ (∀ k, k ≤ (ps.getD a []).length → has s1 ((off ps a + k : Nat) : Int) = has s ((off ps a + k : Nat) : Int)) ∧
      (Good (((List.range (ps.getD a []).length).map (item ps (bsOf ps) a)).foldl f s1) → Good ((items ps (bsOf ps)).foldl f s) ∧ ∀ k, k ≤ (ps.getD a []).length → has ((items ps (bsOf ps)).foldl f s) ((off ps a + k : Nat) : Int) = has (((List.range (ps.getD a []).length).map (item ps (bsOf ps) a)).foldl f s1) ((off ps a + k : Nat) : Int)) := by
  obtain ⟨g1, h1⟩ := foreigns hok hf ha (List.range a) s (fun b hb => by have := List.mem_range.1 hb; omega) hg
  refine ⟨_, g1, h1, fun g2 => ?_⟩
  unfold items upTo
  rw [split_range ha, List.flatMap_append, List.flatMap_cons, List.foldl_append, List.foldl_append]
  exact foreigns hok hf ha _ _ (fun b hb => by
    have := List.mem_range'_1.1 hb; omega) g2
def deep (p : List Pth.Part) (k : Nat) : Bool := (p.getD k default).1 == 2
def fits (p : List Pth.Part) (x : ByteArray) (k : Nat) : Bool := (p.getD k default).1 == 1 || (p.getD k default).2.toList == x.toList
def closeS (p : List Pth.Part) (σ : Nat → Bool) : Nat → Bool
  | 0 => σ 0
  | k + 1 => σ (k + 1) || (deep p k && closeS p σ k)
def stepS (p : List Pth.Part) (x : ByteArray) (σ : Nat → Bool) (k : Nat) : Bool :=
  (decide (k < p.length) && σ k && deep p k) || (decide (0 < k) && (σ (k - 1) && !deep p (k - 1) && fits p x (k - 1)))
def runS (p : List Pth.Part) (l : List ByteArray) : Nat → Bool := l.foldl (fun σ x => closeS p (stepS p x σ)) (closeS p fun k => k == 0)
theorem closeS_congr {p : List Pth.Part} {σ τ : Nat → Bool} {n : Nat} (h : ∀ k, k ≤ n → σ k = τ k) : ∀ k, k ≤ n → closeS p σ k = closeS p τ k
  | 0, h0 => h 0 h0
  | k + 1, hk => by simp only [closeS]; rw [h (k + 1) hk, closeS_congr h k (by omega)]
theorem stepS_congr {p : List Pth.Part} {x : ByteArray} {σ τ : Nat → Bool} {n : Nat} (h : ∀ k, k ≤ n → σ k = τ k) (k : Nat) (hk : k ≤ n) : stepS p x σ k = stepS p x τ k := by
  unfold stepS; rw [h k hk, h (k - 1) (by omega)]
theorem close_puts : Puts fun (s : List Int) (x : It) => if (x.2.1 == 2 && has s x.1) = true then put s (IntKind.i64.wrap (x.1 + 1)) else s := by
  intro s x
  simp only
  split
  · exact .inr (.inr rfl)
  · exact .inl rfl
theorem step_puts (s0 : List Int) (step : ByteArray) : Puts (stepP s0 step) := by
  intro s x
  unfold stepP
  split
  · exact .inl rfl
  · split
    · exact .inr (.inl rfl)
    · split
      · exact .inr (.inr rfl)
      · exact .inl rfl
theorem close_own {ps : List (List Pth.Part)} (hok : Ok ps) {a : Nat} (ha : a < ps.length) {s : List Int} (hg : Good s) : ∀ n, n ≤ (ps.getD a []).length →
    Good (closeF s ((List.range n).map (item ps (bsOf ps) a))) ∧ ∀ k, k ≤ (ps.getD a []).length → has (closeF s ((List.range n).map (item ps (bsOf ps) a))) ((off ps a + k : Nat) : Int) = if k ≤ n then closeS (ps.getD a []) (fun k => has s ((off ps a + k : Nat) : Int)) k else has s ((off ps a + k : Nat) : Int)
  | 0, _ => by
    refine ⟨hg, fun k hk => ?_⟩
    by_cases h : k ≤ 0
    · have : k = 0 := by omega
      subst this; rw [if_pos h]; rfl
    · rw [if_neg h]; rfl
  | n + 1, hn => by
    obtain ⟨g1, h1⟩ := close_own hok ha hg n (by omega)
    rw [List.range_succ, List.map_append, List.map_cons, List.map_nil, closeF_snoc, item_eq hok ha (show n ≤ _ by omega)]
    simp only
    have hn1 := h1 n (by omega)
    rw [if_pos (Nat.le_refl n)] at hn1
    rw [hn1, next_eq hok ha (show n < _ by omega)]
    have key : ∀ k, k ≤ (ps.getD a []).length → (if k ≤ n + 1 then closeS (ps.getD a []) (fun k => has s ((off ps a + k : Nat) : Int)) k else has s ((off ps a + k : Nat) : Int)) = (has (closeF s ((List.range n).map (item ps (bsOf ps) a))) ((off ps a + k : Nat) : Int) || (decide (off ps a + (n + 1) = off ps a + k) && (deep (ps.getD a []) n && closeS (ps.getD a []) (fun k => has s ((off ps a + k : Nat) : Int)) n))) := by
      intro k hk
      rw [h1 k hk]
      rcases Nat.lt_trichotomy k (n + 1) with h | h | h
      · rw [if_pos (by omega), if_pos (by omega)]
        have : decide (off ps a + (n + 1) = off ps a + k) = false := decide_eq_false (by omega)
        rw [this, Bool.false_and, Bool.or_false]
      · subst h
        rw [if_pos (Nat.le_refl _), if_neg (by omega)]
        have : decide (off ps a + (n + 1) = off ps a + (n + 1)) = true := decide_eq_true rfl
        rw [this, Bool.true_and]; rfl
      · rw [if_neg (by omega), if_neg (by omega)]
        have : decide (off ps a + (n + 1) = off ps a + k) = false := decide_eq_false (by omega)
        rw [this, Bool.false_and, Bool.or_false]
    by_cases hc : (((ps.getD a []).getD n default).1 == 2 && closeS (ps.getD a []) (fun k => has s ((off ps a + k : Nat) : Int)) n) = true
    · rw [if_pos hc]
      refine ⟨good_put g1 _, fun k hk => ?_⟩
      rw [has_put g1 (off_lt hok ha hn) (off_lt hok ha hk), key k hk]
      unfold deep
      rw [hc, Bool.and_true]
    · rw [if_neg hc]
      refine ⟨g1, fun k hk => ?_⟩
      rw [key k hk]
      unfold deep
      rw [Bool.not_eq_true] at hc
      rw [hc, Bool.and_false, Bool.or_false]
theorem close_has {ps : List (List Pth.Part)} (hok : Ok ps) {a : Nat} (ha : a < ps.length) {s : List Int} (hg : Good s) : Good (closeF s (items ps (bsOf ps))) ∧ ∀ k, k ≤ (ps.getD a []).length → has (closeF s (items ps (bsOf ps))) ((off ps a + k : Nat) : Int) = closeS (ps.getD a []) (fun k => has s ((off ps a + k : Nat) : Int)) k := by
  obtain ⟨s1, g1, h1, h2⟩ := own_only hok close_puts ha hg
  obtain ⟨g3, h3⟩ := close_own hok ha g1 _ (Nat.le_refl _)
  obtain ⟨g4, h4⟩ := h2 g3
  refine ⟨g4, fun k hk => ?_⟩
  refine (h4 k hk).trans ((h3 k hk).trans ?_)
  rw [if_pos hk]
  exact closeS_congr h1 k hk
theorem step_own {ps : List (List Pth.Part)} (hok : Ok ps) {a : Nat} (ha : a < ps.length) {s0 : List Int} (step : ByteArray) {s : List Int} (hg : Good s) (h0 : ∀ k, k ≤ (ps.getD a []).length → has s ((off ps a + k : Nat) : Int) = false) : ∀ n, n ≤ (ps.getD a []).length →
    Good (((List.range n).map (item ps (bsOf ps) a)).foldl (stepP s0 step) s) ∧ ∀ k, k ≤ (ps.getD a []).length → has (((List.range n).map (item ps (bsOf ps) a)).foldl (stepP s0 step) s) ((off ps a + k : Nat) : Int) =
      ((decide (k < n) && has s0 ((off ps a + k : Nat) : Int) && deep (ps.getD a []) k) || (decide (0 < k) && decide (k - 1 < n) && (has s0 ((off ps a + (k - 1) : Nat) : Int) && !deep (ps.getD a []) (k - 1) && fits (ps.getD a []) step (k - 1))))
  | 0, _ => ⟨hg, fun k hk => by
      show has s _ = _
      rw [h0 k hk]; simp⟩
  | n + 1, hn => by
    obtain ⟨g1, h1⟩ := step_own hok ha step hg h0 n (by omega)
    rw [List.range_succ, List.map_append, List.map_cons, List.map_nil, List.foldl_append, List.foldl_cons, List.foldl_nil, item_eq hok ha (show n ≤ _ by omega)]
    generalize hS : ((List.range n).map (item ps (bsOf ps) a)).foldl (stepP s0 step) s = S at g1 h1 ⊢
    unfold stepP
    simp only
    have hd : (((ps.getD a []).getD n default).1 == 2) = deep (ps.getD a []) n := rfl
    have hf : (((ps.getD a []).getD n default).1 == 1 || ((ps.getD a []).getD n default).2.toList == step.toList) = fits (ps.getD a []) step n := rfl
    rw [hd, hf, next_eq hok ha (show n < _ by omega)]
    have lt1 : ∀ k : Nat, k ≠ n → decide (k < n + 1) = decide (k < n) := fun k hk => by
      rw [Bool.eq_iff_iff, decide_eq_true_eq, decide_eq_true_eq]; omega
    have lt2 : ∀ k : Nat, k ≠ n + 1 → (decide (0 < k) && decide (k - 1 < n + 1)) = (decide (0 < k) && decide (k - 1 < n)) := fun k hk => by
      rw [Bool.eq_iff_iff]; simp only [Bool.and_eq_true, decide_eq_true_eq]; omega
    have eN : decide (n < n + 1) = true := by simp
    have eN' : decide (n < n) = false := by simp
    have eM : (decide (0 < n + 1) && decide (n + 1 - 1 < n + 1)) = true := by simp
    have eM' : (decide (0 < n + 1) && decide (n + 1 - 1 < n)) = false := by simp
    cases hh : has s0 ((off ps a + n : Nat) : Int) with
    | false =>
      rw [if_pos (by simp)]
      refine ⟨g1, fun k hk => (h1 k hk).trans ?_⟩
      by_cases e1 : k = n
      · subst e1
        rw [hh, lt2 k (by omega)]; simp
      · by_cases e2 : k = n + 1
        · subst e2
          rw [decide_eq_false (show ¬ n + 1 < n + 1 by omega), decide_eq_false (show ¬ n + 1 < n by omega), show n + 1 - 1 = n by omega, hh]; simp
        · rw [lt1 k e1, lt2 k e2]
    | true =>
      rw [if_neg (by simp)]
      cases hdp : deep (ps.getD a []) n with
      | true =>
        rw [if_pos rfl]
        refine ⟨good_put g1 _, fun k hk => ?_⟩
        rw [has_put g1 (off_lt hok ha (show n ≤ _ by omega)) (off_lt hok ha hk), h1 k hk]
        by_cases e1 : k = n
        · subst e1
          rw [hh, hdp, lt2 k (by omega), eN]; simp
        · have : decide (off ps a + n = off ps a + k) = false := decide_eq_false (by omega)
          rw [this, Bool.or_false]
          by_cases e2 : k = n + 1
          · subst e2
            rw [decide_eq_false (show ¬ n + 1 < n + 1 by omega), decide_eq_false (show ¬ n + 1 < n by omega), show n + 1 - 1 = n by omega, hdp]; simp
          · rw [lt1 k e1, lt2 k e2]
      | false =>
        rw [if_neg (by simp)]
        cases hft : fits (ps.getD a []) step n with
        | true =>
          rw [if_pos rfl]
          refine ⟨good_put g1 _, fun k hk => ?_⟩
          rw [has_put g1 (off_lt hok ha hn) (off_lt hok ha hk), h1 k hk]
          by_cases e2 : k = n + 1
          · subst e2
            rw [show n + 1 - 1 = n by omega, hh, hdp, hft]; simp
          · have : decide (off ps a + (n + 1) = off ps a + k) = false := decide_eq_false (by omega)
            rw [this, Bool.or_false]
            by_cases e1 : k = n
            · subst e1
              rw [hdp, lt2 k (by omega)]; simp
            · rw [lt1 k e1, lt2 k e2]
        | false =>
          rw [if_neg (by simp)]
          refine ⟨g1, fun k hk => (h1 k hk).trans ?_⟩
          by_cases e1 : k = n
          · subst e1
            rw [hdp, lt2 k (by omega)]; simp
          · by_cases e2 : k = n + 1
            · subst e2
              rw [decide_eq_false (show ¬ n + 1 < n + 1 by omega), decide_eq_false (show ¬ n + 1 < n by omega), show n + 1 - 1 = n by omega, hft]; simp
            · rw [lt1 k e1, lt2 k e2]
theorem step_has {ps : List (List Pth.Part)} (hok : Ok ps) {a : Nat} (ha : a < ps.length) (s0 : List Int) (x : ByteArray) : Good (stepF s0 x (items ps (bsOf ps))) ∧ ∀ k, k ≤ (ps.getD a []).length → has (stepF s0 x (items ps (bsOf ps))) ((off ps a + k : Nat) : Int) = stepS (ps.getD a []) x (fun k => has s0 ((off ps a + k : Nat) : Int)) k := by
  obtain ⟨s1, g1, h1, h2⟩ := own_only hok (step_puts s0 x) ha good0
  obtain ⟨g3, h3⟩ := step_own hok ha (s0 := s0) x g1 (fun k hk => (h1 k hk).trans (has0 _ (off_lt hok ha hk))) _ (Nat.le_refl _)
  obtain ⟨g4, h4⟩ := h2 g3
  refine ⟨g4, fun k hk => ?_⟩
  refine (h4 k hk).trans ((h3 k hk).trans ?_)
  unfold stepS
  by_cases hz : 0 < k
  · have : decide (k - 1 < (ps.getD a []).length) = true := decide_eq_true (by omega)
    rw [this, Bool.and_true]
  · have : decide (0 < k) = false := decide_eq_false hz
    rw [this]; simp
theorem begins_has {ps : List (List Pth.Part)} (hok : Ok ps) {a : Nat} (ha : a < ps.length) : ∀ n, n ≤ ps.length → Good (begins (bsOf ps) n) ∧ ∀ k, k ≤ (ps.getD a []).length → has (begins (bsOf ps) n) ((off ps a + k : Nat) : Int) = (decide (a < n) && (k == 0))
  | 0, _ => ⟨good0, fun k hk => by rw [show begins (bsOf ps) 0 = List.replicate 8 0 from rfl, has0 _ (off_lt hok ha hk)]; simp⟩
  | n + 1, hn => by
    obtain ⟨g1, h1⟩ := begins_has hok ha n (by omega)
    rw [begins_succ, begin_eq hok (show n < ps.length by omega)]
    refine ⟨good_put g1 _, fun k hk => ?_⟩
    have hlt := off_lt hok (show n < ps.length by omega) (k := 0) (Nat.zero_le _)
    rw [has_put g1 (by omega) (off_lt hok ha hk), h1 k hk]
    by_cases e : n = a
    · subst e
      rw [Bool.eq_iff_iff]
      simp
    · have h3 : decide (off ps n = off ps a + k) = false := decide_eq_false (by have := off_ne (j := 0) e hk (Nat.zero_le _); omega)
      rw [h3, Bool.or_false]
      congr 1
      rw [Bool.eq_iff_iff, decide_eq_true_eq, decide_eq_true_eq]; omega
theorem run_has {ps : List (List Pth.Part)} (hok : Ok ps) {a : Nat} (ha : a < ps.length) (l : List ByteArray) : Good (run ps (bsOf ps) l) ∧ ∀ k, k ≤ (ps.getD a []).length → has (run ps (bsOf ps) l) ((off ps a + k : Nat) : Int) = runS (ps.getD a []) l k := by
  have start : Good (Nfa.start ps (bsOf ps)) ∧ ∀ k, k ≤ (ps.getD a []).length → has (Nfa.start ps (bsOf ps)) ((off ps a + k : Nat) : Int) = closeS (ps.getD a []) (fun k => k == 0) k := by
    obtain ⟨g1, h1⟩ := begins_has hok ha ps.length (Nat.le_refl _)
    obtain ⟨g2, h2⟩ := close_has hok ha g1
    refine ⟨g2, fun k hk => (h2 k hk).trans (closeS_congr (n := (ps.getD a []).length) (fun j hj => ?_) k hk)⟩
    rw [h1 j hj, decide_eq_true ha, Bool.true_and]
  have gen : ∀ (l : List ByteArray) (s : List Int) (σ : Nat → Bool), Good s → (∀ k, k ≤ (ps.getD a []).length → has s ((off ps a + k : Nat) : Int) = σ k) →
      Good (l.foldl (Nfa.step ps (bsOf ps)) s) ∧ ∀ k, k ≤ (ps.getD a []).length → has (l.foldl (Nfa.step ps (bsOf ps)) s) ((off ps a + k : Nat) : Int) = (l.foldl (fun σ x => closeS (ps.getD a []) (stepS (ps.getD a []) x σ)) σ) k := by
    intro l
    induction l with
    | nil => intro s σ hg h; exact ⟨hg, h⟩
    | cons x l ih =>
      intro s σ hg h
      obtain ⟨g1, h1⟩ := step_has hok ha s x
      obtain ⟨g2, h2⟩ := close_has hok ha g1
      refine ih _ _ g2 fun k hk => (h2 k hk).trans (closeS_congr (n := (ps.getD a []).length) (fun j hj => ?_) k hk)
      rw [h1 j hj]
      exact stepS_congr h j hj
  exact gen l _ _ start.1 start.2
end Nfa
end Go.Proofs.YthgafcaoibfchaaDoor.X
end
section
namespace Go.Proofs.YthgafcaoibfchaaDoor.X
open Go Go.RowKit Go.Shelf Go.Proofs
set_option linter.unusedVariables false
set_option linter.unusedSimpArgs false
theorem Pth.cell0 {l : List Pth.Part} {j : Nat} (h : j < l.length) : (Pth.cellsP l)[j * 2 + 0]? = some (.int .i64 (l.getD j default).1) := by
  have := Pth.cells_at l j h
  rw [← List.getElem?_drop, ← List.getElem?_take_of_lt (show 0 < 2 by omega), this]; rfl
theorem Pth.cell1 {l : List Pth.Part} {j : Nat} (h : j < l.length) : (Pth.cellsP l)[j * 2 + 1]? = some (.string (l.getD j default).2) := by
  have := Pth.cells_at l j h
  rw [← List.getElem?_drop, ← List.getElem?_take_of_lt (show 1 < 2 by omega), this]; rfl
namespace Nfa
def deepq (q : Pth.Part) : Bool := q.1 == 2
def fitq (q : Pth.Part) (x : ByteArray) : Bool := q.1 == 1 || q.2.toList == x.toList
def mat : List Pth.Part → List ByteArray → Bool
  | [], l => l.isEmpty
  | q :: p, [] => deepq q && mat p []
  | q :: p, x :: l => if deepq q then mat p (x :: l) || mat (q :: p) l else fitq q x && mat p l
termination_by p l => p.length + l.length
theorem mat_nil (l : List ByteArray) : mat [] l = l.isEmpty := by rw [mat]
theorem mat_ex {q : Pth.Part} {p : List Pth.Part} (hq : deepq q = true) : ∀ l : List ByteArray, mat (q :: p) l = true ↔ ∃ j, j ≤ l.length ∧ mat p (l.drop j) = true
  | [] => by
    rw [mat, hq, Bool.true_and]
    constructor
    · intro h; exact ⟨0, Nat.le_refl _, h⟩
    · rintro ⟨j, hj, h⟩; rw [List.drop_nil] at h; exact h
  | x :: l => by
    rw [mat, if_pos hq, Bool.or_eq_true, mat_ex hq l]
    constructor
    · rintro (h | ⟨j, hj, h⟩)
      · exact ⟨0, Nat.zero_le _, h⟩
      · exact ⟨j + 1, by simp; omega, h⟩
    · rintro ⟨j, hj, h⟩
      cases j with
      | zero => exact .inl h
      | succ j => exact .inr ⟨j, by simp at hj; omega, h⟩
theorem mat_step {q : Pth.Part} {p : List Pth.Part} (hq : deepq q = false) (x : ByteArray) (l : List ByteArray) : mat (q :: p) (x :: l) = (fitq q x && mat p l) := by rw [mat, if_neg (by rw [hq]; simp)]
theorem mat_end {q : Pth.Part} {p : List Pth.Part} (hq : deepq q = false) : mat (q :: p) [] = false := by rw [mat, hq, Bool.false_and]
theorem drop_cons {p : List Pth.Part} {i : Nat} (h : i < p.length) : p.drop i = p.getD i default :: p.drop (i + 1) := by
  rw [List.drop_eq_getElem_cons h, List.getD_eq_getElem?_getD, List.getElem?_eq_getElem h]; rfl
theorem drop_consS {l : List ByteArray} {i : Nat} (h : i < l.length) : l.drop i = l.getD i default :: l.drop (i + 1) := by
  rw [List.drop_eq_getElem_cons h, List.getD_eq_getElem?_getD, List.getElem?_eq_getElem h]; rfl
theorem deep_q (p : List Pth.Part) (k : Nat) : deep p k = deepq (p.getD k default) := rfl
theorem fits_q (p : List Pth.Part) (x : ByteArray) (k : Nat) : fits p x k = fitq (p.getD k default) x := rfl
theorem mat_at_deep {p : List Pth.Part} {i : Nat} (hi : i < p.length) (hd : deep p i = true) (l : List ByteArray) (t : Nat) (ht : t ≤ l.length) : mat (p.drop i) (l.drop t) = true ↔ ∃ j, t ≤ j ∧ j ≤ l.length ∧ mat (p.drop (i + 1)) (l.drop j) = true := by
  rw [drop_cons hi, mat_ex (by rw [← deep_q]; exact hd)]
  constructor
  · rintro ⟨j, hj, h⟩
    rw [List.length_drop] at hj
    rw [List.drop_drop] at h
    exact ⟨t + j, by omega, by omega, h⟩
  · rintro ⟨j, h1, h2, h⟩
    refine ⟨j - t, by rw [List.length_drop]; omega, ?_⟩
    rw [List.drop_drop, show t + (j - t) = j by omega]; exact h
theorem mat_at_fit {p : List Pth.Part} {i : Nat} (hi : i < p.length) (hd : deep p i = false) {l : List ByteArray} {t : Nat} (ht : t < l.length) : mat (p.drop i) (l.drop t) = (fits p (l.getD t default) i && mat (p.drop (i + 1)) (l.drop (t + 1))) := by
  rw [drop_cons hi, drop_consS ht, mat_step (by rw [← deep_q]; exact hd), fits_q]
theorem mat_at_end {p : List Pth.Part} {i : Nat} (hi : i < p.length) (hd : deep p i = false) {l : List ByteArray} {t : Nat} (ht : l.length ≤ t) : mat (p.drop i) (l.drop t) = false := by
  rw [drop_cons hi, List.drop_eq_nil_of_le ht, mat_end (by rw [← deep_q]; exact hd)]
theorem seg {p : List Pth.Part} {l : List ByteArray} : ∀ (n a j : Nat), a + n ≤ p.length → j ≤ l.length → (∀ k, a ≤ k → k < a + n → deep p k = false) → mat (p.drop a) (l.drop j) = true → j + n ≤ l.length ∧ mat (p.drop (a + n)) (l.drop (j + n)) = true
  | 0, a, j, _, hj, _, h => ⟨hj, h⟩
  | n + 1, a, j, ha, hj, hk, h => by
    have hd := hk a (Nat.le_refl _) (by omega)
    rcases Nat.lt_or_ge j l.length with hlt | hge
    · rw [mat_at_fit (by omega) hd hlt, Bool.and_eq_true] at h
      obtain ⟨h1, h2⟩ := seg n (a + 1) (j + 1) (by omega) (by omega) (fun k h1 h2 => hk k (by omega) (by omega)) h.2
      rw [show a + 1 + n = a + (n + 1) by omega, show j + 1 + n = j + (n + 1) by omega] at h2
      exact ⟨by omega, h2⟩
    · rw [mat_at_end (by omega) hd hge] at h; cases h
structure Inv (p : List Pth.Part) (l : List ByteArray) (i t D r : Nat) : Prop where
  hi : i ≤ p.length
  ht : t ≤ l.length
  hD : D ≤ i
  hr : r ≤ t
  hseg : 0 < D → i + r = D + t ∧ ∀ k, D ≤ k → k < i → deep p k = false
  hm : mat p l = true ↔ (mat (p.drop i) (l.drop t) = true ∨ (0 < D ∧ ∃ j, r < j ∧ j ≤ l.length ∧ mat (p.drop D) (l.drop j) = true))
theorem Inv.init (p : List Pth.Part) (l : List ByteArray) : Inv p l 0 0 0 0 :=
  ⟨Nat.zero_le _, Nat.zero_le _, Nat.le_refl _, Nat.le_refl _, fun h => absurd h (by omega), by simp⟩
theorem Inv.deep {p : List Pth.Part} {l : List ByteArray} {i t D r : Nat} (h : Inv p l i t D r) (hi : i < p.length) (hd : Nfa.deep p i = true) : Inv p l (i + 1) t (i + 1) t := by
  refine ⟨hi, h.ht, Nat.le_refl _, Nat.le_refl _, fun _ => ⟨rfl, fun k h1 h2 => absurd h2 (by omega)⟩, ?_⟩
  rw [h.hm, mat_at_deep hi hd l t h.ht]
  constructor
  · rintro (⟨j, h1, h2, h3⟩ | ⟨hD, j, h1, h2, h3⟩)
    · rcases Nat.lt_or_ge t j with hlt | hge
      · exact .inr ⟨by omega, j, hlt, h2, h3⟩
      · have : j = t := by omega
        subst this; exact .inl h3
    · obtain ⟨e, hk⟩ := h.hseg hD
      have hDi := h.hD
      obtain ⟨g1, g2⟩ := seg (i - D) D j (by omega) h2 (fun k k1 k2 => hk k k1 (by omega)) h3
      rw [show D + (i - D) = i by omega] at g2
      obtain ⟨m, m1, m2, m3⟩ := (mat_at_deep hi hd l (j + (i - D)) g1).1 g2
      exact .inr ⟨by omega, m, by omega, m2, m3⟩
  · rintro (h1 | ⟨_, j, h1, h2, h3⟩)
    · exact .inl ⟨t, Nat.le_refl _, h.ht, h1⟩
    · exact .inl ⟨j, by omega, h2, h3⟩
theorem Inv.fit {p : List Pth.Part} {l : List ByteArray} {i t D r : Nat} (h : Inv p l i t D r) (hi : i < p.length) (ht : t < l.length) (hd : Nfa.deep p i = false) (hf : fits p (l.getD t default) i = true) : Inv p l (i + 1) (t + 1) D r := by
  refine ⟨hi, ht, by have := h.hD; omega, by have := h.hr; omega, fun hD => ?_, ?_⟩
  · obtain ⟨e, hk⟩ := h.hseg hD
    refine ⟨by omega, fun k h1 h2 => ?_⟩
    rcases Nat.lt_or_ge k i with hlt | hge
    · exact hk k h1 hlt
    · have : k = i := by omega
      rw [this]; exact hd
  · rw [h.hm, mat_at_fit hi hd ht, hf, Bool.true_and]
theorem stuck {p : List Pth.Part} {l : List ByteArray} {i t : Nat} (hi : i ≤ p.length) (ht : t ≤ l.length) (h0 : t < l.length ∨ i < p.length) (hd : i < p.length → Nfa.deep p i = false) (hf : i < p.length → t < l.length → fits p (l.getD t default) i = false) : mat (p.drop i) (l.drop t) = false := by
  rcases Nat.lt_or_ge i p.length with h1 | h1
  · rcases Nat.lt_or_ge t l.length with h2 | h2
    · rw [mat_at_fit h1 (hd h1) h2, hf h1 h2, Bool.false_and]
    · exact mat_at_end h1 (hd h1) h2
  · rw [List.drop_eq_nil_of_le h1, mat_nil, drop_consS (by omega)]; rfl
theorem Inv.fail {p : List Pth.Part} {l : List ByteArray} {i t D r : Nat} (h : Inv p l i t D r) (hs : mat (p.drop i) (l.drop t) = false) (h0 : D = 0 ∨ l.length ≤ r) : mat p l = false := by
  cases hm : mat p l with
  | false => rfl
  | true =>
    rcases h.hm.1 hm with h1 | ⟨hD, j, h1, h2, _⟩
    · rw [hs] at h1; cases h1
    · omega
theorem Inv.back {p : List Pth.Part} {l : List ByteArray} {i t D r : Nat} (h : Inv p l i t D r) (hs : mat (p.drop i) (l.drop t) = false) (hD : 0 < D) (hr : r < l.length) : Inv p l D (r + 1) D (r + 1) := by
  refine ⟨by have := h.hD; have := h.hi; omega, hr, Nat.le_refl _, Nat.le_refl _, fun _ => ⟨rfl, fun k h1 h2 => absurd h2 (by omega)⟩, ?_⟩
  rw [h.hm, hs]
  constructor
  · rintro (h1 | ⟨_, j, h1, h2, h3⟩)
    · cases h1
    · rcases Nat.lt_or_ge (r + 1) j with hlt | hge
      · exact .inr ⟨hD, j, hlt, h2, h3⟩
      · have : j = r + 1 := by omega
        subst this; exact .inl h3
  · rintro (h1 | ⟨_, j, h1, h2, h3⟩)
    · exact .inr ⟨hD, r + 1, by omega, hr, h1⟩
    · exact .inr ⟨hD, j, by omega, h2, h3⟩
theorem Inv.done {p : List Pth.Part} {l : List ByteArray} {i t D r : Nat} (h : Inv p l i t D r) (hi : p.length ≤ i) (ht : l.length ≤ t) : mat p l = true :=
  h.hm.2 (.inl (by rw [List.drop_eq_nil_of_le hi, List.drop_eq_nil_of_le ht, mat_nil]; rfl))
def left (p : List Pth.Part) (l : List ByteArray) (i t D r : Nat) : Nat := ((p.length - D) * (l.length + 1) + (l.length - r)) * (p.length + 1) + (p.length - i)
theorem left_fit {p : List Pth.Part} {l : List ByteArray} {i t D r : Nat} (hi : i < p.length) : left p l (i + 1) (t + 1) D r < left p l i t D r := by unfold left; omega
theorem left_deep {p : List Pth.Part} {l : List ByteArray} {i t D r : Nat} (hi : i < p.length) (hD : D ≤ i) : left p l (i + 1) t (i + 1) t < left p l i t D r := by
  unfold left
  have h1 : (p.length - (i + 1) + 1) * (l.length + 1) ≤ (p.length - D) * (l.length + 1) := Nat.mul_le_mul_right _ (by omega)
  rw [Nat.add_mul] at h1
  have h2 : (p.length - (i + 1)) * (l.length + 1) + (l.length - t) + 1 ≤ (p.length - D) * (l.length + 1) + (l.length - r) := by omega
  have h3 := Nat.mul_le_mul_right (p.length + 1) h2
  rw [Nat.add_mul] at h3
  omega
theorem left_back {p : List Pth.Part} {l : List ByteArray} {i t D r : Nat} (hr : r < l.length) : left p l D (r + 1) D (r + 1) < left p l i t D r := by
  unfold left
  have h2 : (p.length - D) * (l.length + 1) + (l.length - (r + 1)) + 1 ≤ (p.length - D) * (l.length + 1) + (l.length - r) := by omega
  have h3 := Nat.mul_le_mul_right (p.length + 1) h2
  rw [Nat.add_mul] at h3
  omega
def closedS (p : List Pth.Part) (σ : Nat → Bool) : Prop := ∀ k, k < p.length → σ k = true → deep p k = true → σ (k + 1) = true
theorem closeS_closed (p : List Pth.Part) (σ : Nat → Bool) : closedS p (closeS p σ) := by
  intro k _ h1 h2
  simp only [closeS, h1, h2]; simp
theorem closeS_sub (p : List Pth.Part) (σ : Nat → Bool) : ∀ k, σ k = true → closeS p σ k = true
  | 0, h => h
  | k + 1, h => by simp only [closeS, h]; simp
theorem reach_end {p : List Pth.Part} {σ : Nat → Bool} (hc : closedS p σ) : ∀ (n k : Nat), k + n = p.length → σ k = true → mat (p.drop k) [] = true → σ p.length = true
  | 0, k, e, h, _ => by rw [← e]; exact h
  | n + 1, k, e, h, hm => by
    rw [drop_cons (by omega), mat, Bool.and_eq_true] at hm
    exact reach_end hc n (k + 1) (by omega) (hc k (by omega) h hm.1) hm.2
theorem fwd {p : List Pth.Part} {σ : Nat → Bool} (hc : closedS p σ) (x : ByteArray) (l : List ByteArray) : ∀ (n k : Nat), k + n = p.length → σ k = true → mat (p.drop k) (x :: l) = true → ∃ k', k' ≤ p.length ∧ closeS p (stepS p x σ) k' = true ∧ mat (p.drop k') l = true
  | 0, k, e, h, hm => by
    rw [List.drop_eq_nil_of_le (by omega), mat_nil] at hm; cases hm
  | n + 1, k, e, h, hm => by
    have hk : k < p.length := by omega
    cases hd : deep p k with
    | true =>
      rw [drop_cons hk, mat, if_pos (by rw [← deep_q]; exact hd), Bool.or_eq_true] at hm
      rcases hm with h1 | h1
      · exact fwd hc x l n (k + 1) (by omega) (hc k hk h hd) h1
      · refine ⟨k, by omega, closeS_sub _ _ _ ?_, by rw [drop_cons hk]; exact h1⟩
        unfold stepS
        rw [decide_eq_true hk, h, hd]; rfl
    | false =>
      rw [drop_cons hk, mat_step (by rw [← deep_q]; exact hd), Bool.and_eq_true] at hm
      refine ⟨k + 1, by omega, closeS_sub _ _ _ ?_, hm.2⟩
      unfold stepS
      rw [show k + 1 - 1 = k by omega, h, hd, fits_q, hm.1]; simp
theorem bwd {p : List Pth.Part} {σ : Nat → Bool} (x : ByteArray) (l : List ByteArray) : ∀ (k : Nat), k ≤ p.length → closeS p (stepS p x σ) k = true → mat (p.drop k) l = true → ∃ k', k' ≤ p.length ∧ σ k' = true ∧ mat (p.drop k') (x :: l) = true := by
  have base : ∀ k, k ≤ p.length → stepS p x σ k = true → mat (p.drop k) l = true → ∃ k', k' ≤ p.length ∧ σ k' = true ∧ mat (p.drop k') (x :: l) = true := by
    intro k hk h hm
    unfold stepS at h
    simp only [Bool.or_eq_true, Bool.and_eq_true, decide_eq_true_eq, Bool.not_eq_true'] at h
    rcases h with ⟨⟨h1, h2⟩, h3⟩ | ⟨h0, ⟨h1, h2⟩, h3⟩
    · refine ⟨k, hk, h2, ?_⟩
      rw [drop_cons h1, mat, if_pos (by rw [← deep_q]; exact h3), ← drop_cons h1, hm, Bool.or_true]
    · refine ⟨k - 1, by omega, h1, ?_⟩
      rw [drop_cons (show k - 1 < p.length by omega), mat_step (by rw [← deep_q]; exact h2), ← fits_q, h3, show k - 1 + 1 = k by omega, hm]; rfl
  intro k
  induction k with
  | zero => exact base 0
  | succ k ih =>
    intro hk h hm
    simp only [closeS, Bool.or_eq_true, Bool.and_eq_true] at h
    rcases h with h | ⟨h1, h2⟩
    · exact base _ hk h hm
    · refine ih (by omega) h2 ?_
      have hx := (mat_at_deep (show k < p.length by omega) h1 l 0 (Nat.zero_le _)).2 ⟨0, Nat.le_refl _, Nat.zero_le _, hm⟩
      exact hx
theorem runs {p : List Pth.Part} : ∀ (l : List ByteArray) (σ : Nat → Bool), closedS p σ → ((l.foldl (fun σ x => closeS p (stepS p x σ)) σ) p.length = true ↔ ∃ k, k ≤ p.length ∧ σ k = true ∧ mat (p.drop k) l = true)
  | [], σ, hc => by
    constructor
    · intro h; exact ⟨p.length, Nat.le_refl _, h, by rw [List.drop_eq_nil_of_le (Nat.le_refl _), mat_nil]; rfl⟩
    · rintro ⟨k, hk, h, hm⟩; exact reach_end hc (p.length - k) k (by omega) h hm
  | x :: l, σ, hc => by
    rw [List.foldl_cons, runs l _ (closeS_closed _ _)]
    constructor
    · rintro ⟨k, hk, h, hm⟩; exact bwd x l k hk h hm
    · rintro ⟨k, hk, h, hm⟩; exact fwd hc x l (p.length - k) k (by omega) h hm
theorem runS_mat (p : List Pth.Part) (l : List ByteArray) : runS p l p.length = mat p l := by
  rw [Bool.eq_iff_iff]
  unfold runS
  rw [runs l _ (closeS_closed _ _)]
  constructor
  · rintro ⟨k, hk, h, hm⟩
    have : ∀ k, k ≤ p.length → closeS p (fun k => k == 0) k = true → mat (p.drop k) l = true → mat (p.drop 0) l = true := by
      intro k
      induction k with
      | zero => intro _ _ h; exact h
      | succ k ih =>
        intro hk h hm
        simp only [closeS, Bool.or_eq_true, Bool.and_eq_true] at h
        rcases h with h | ⟨h1, h2⟩
        · simp at h
        · exact ih (by omega) h2 ((mat_at_deep (show k < p.length by omega) h1 l 0 (Nat.zero_le _)).2 ⟨0, Nat.le_refl _, Nat.zero_le _, hm⟩)
    exact this k hk h hm
  · intro h
    exact ⟨0, Nat.zero_le _, rfl, h⟩
end Nfa
end Go.Proofs.YthgafcaoibfchaaDoor.X
end
section
namespace Go.Proofs.Eng
open Go Go.RowKit
set_option linter.unusedSimpArgs false
set_option linter.unusedVariables false
variable {P : Program} {o : Oper} {a : Act} {w : World}
theorem run_field_el {T : TypeId} {x : Operand} {f j : Nat} {fs : Array Field} {v : Value} {n size : Nat} {xs : List Value} (hop : o.op = .fieldAddr T x f) (hu : P.underlying T = some (.struct fs)) (k : Nat) (hf : (fs[f]?).map (fun fd => (fd.offset, ((P.info? fd.type).map (·.size)).isSome && decide ((P.info? fd.type).map (·.size) ≠ some 0))) = some (k, true)) (h : a.eval x = elemPtr v j) (F : Reads w v n size xs) (hj : j < n * size) :
    (execOp a.eval o).run P w = .ok (.value (elemPtr v (j + k))) w := by
  obtain ⟨hl, A, c, rfl, hc, hm, hx⟩ := F
  obtain ⟨ad, rfl, _⟩ := hx j _ (List.getElem?_eq_getElem (by omega))
  cases hq : fs[f]? with
  | none => simp [hq] at hf
  | some fd =>
    cases hi : P.info? fd.type with
    | none => simp [hq, hi] at hf
    | some i =>
      simp [hq, hi] at hf
      obtain ⟨h1, h2⟩ := hf
      unfold execOp; rw [hop]
      simp only [h, elemPtr, Instr.fieldAt, Instr.sureAddr, Sem.run_bind, Sem.run_pure, Result.andThen_ok, run_underlying hu]
      simp [Sem.run_bind, Sem.run_pure, hq, fieldPlace, sizeOf, typeInfo, hi, h2, ← h1, add_add]
end Go.Proofs.Eng
end
