/- Words and walks that the row of TextTells needs: printed by programs, and plain laws. -/
import Derived.Test.YtdbkefgdeenjoaaDoorM1
import Derived.Test.YtdbkefgdeenjoaaDoorM10
import Derived.Test.YtdbkefgdeenjoaaDoorM4
import Derived.Test.YtdbkefgdeenjoaaDoorM5
import Derived.Test.YtdbkefgdeenjoaaDoorM6
import Derived.Test.YtdbkefgdeenjoaaDoorM7
import Derived.Test.YtdbkefgdeenjoaaDoorM8
import Derived.Test.YtdbkefgdeenjoaaDoorM9
import Derived.Lib.DecodeN
import Derived.Test.YtdbkefgdeenjoaaDoorM3
section
namespace Go.Proofs.YtdbkefgdeenjoaaDoor.Plain
set_option linter.unusedVariables false
set_option linter.unusedSimpArgs false
open Go.RowKit Go.Proofs.YtdbkefgdeenjoaaDoor.X Go.Proofs.YtdbkefgdeenjoaaDoorW.PrintWords Go.Proofs.YtdbkefgdeenjoaaDoorW.PrintLast Go.Proofs.YtdbkefgdeenjoaaDoorW.PrintMore
def Bts (l : List Int) : Prop := ∀ x ∈ l, 0 ≤ x ∧ x < 256
theorem u32_bits (n m : Nat) (hn : n < 4294967296) (hm : m < 4294967296) : Go.bits .or .u32 (n : Int) (m : Int) = ((n ||| m : Nat) : Int) := by
  unfold Go.bits
  have hx : (BitVec.ofInt IntKind.u32.bits (n : Int) ||| BitVec.ofInt IntKind.u32.bits (m : Int)).toNat = n ||| m := by
    show (BitVec.ofInt 32 (n : Int) ||| BitVec.ofInt 32 (m : Int)).toNat = n ||| m
    rw [BitVec.toNat_or]
    have h3 : (BitVec.ofInt 32 (n : Int)).toNat = n := by simp [BitVec.toNat_ofInt]; omega
    have h4 : (BitVec.ofInt 32 (m : Int)).toNat = m := by simp [BitVec.toNat_ofInt]; omega
    rw [h3, h4]
  simp only [hx]
  have hlt : n ||| m < 4294967296 := Nat.or_lt_two_pow (n := 32) hn hm
  show ((n ||| m : Nat) : Int) % 4294967296 = _
  omega
theorem or_high (i a m : Nat) (h : m < 2 ^ i) (hn : 2 ^ i * a + m < 4294967296) : Go.bits .or .u32 ((2 ^ i * a : Nat) : Int) (m : Int) = ((2 ^ i * a + m : Nat) : Int) := by
  rw [u32_bits _ _ (by omega) (by omega), ← Nat.two_pow_add_eq_or_of_lt h]
theorem or_low (i a m : Nat) (h : m < 2 ^ i) (hn : 2 ^ i * a + m < 4294967296) : Go.bits .or .u32 (m : Int) ((2 ^ i * a : Nat) : Int) = ((2 ^ i * a + m : Nat) : Int) := by
  rw [u32_bits _ _ (by omega) (by omega), Nat.or_comm, ← Nat.two_pow_add_eq_or_of_lt h]
theorem or_big (x c : Int) (hx : 0 ≤ x) (hx1 : x < 16777216) (hc : 0 ≤ c) (hc1 : c < 256) : Go.bits .or .u32 ((x * 256) % 4294967296) (c % 4294967296) = x * 256 + c := by
  obtain ⟨a, rfl⟩ : ∃ a : Nat, x = (a : Int) := ⟨x.toNat, by omega⟩
  obtain ⟨m, rfl⟩ : ∃ m : Nat, c = (m : Int) := ⟨c.toNat, by omega⟩
  have h := or_high 8 a m (by omega) (by omega)
  rw [show ((a : Int) * 256) % 4294967296 = ((2 ^ 8 * a : Nat) : Int) by omega, show (m : Int) % 4294967296 = (m : Int) by omega, h]
  omega
theorem or_little (x c : Int) (i : Nat) (hi : i ≤ 3) (hx : 0 ≤ x) (hx1 : x < 2 ^ (8 * i)) (hc : 0 ≤ c) (hc1 : c < 256) : Go.bits .or .u32 x (shl .u32 (c % 4294967296) (wrap64 (8 * (i : Int)))) = x + c * 2 ^ (8 * i) := by
  obtain ⟨a, rfl⟩ : ∃ a : Nat, x = (a : Int) := ⟨x.toNat, by omega⟩
  obtain ⟨m, rfl⟩ : ∃ m : Nat, c = (m : Int) := ⟨c.toNat, by omega⟩
  have hi4 : i = 0 ∨ i = 1 ∨ i = 2 ∨ i = 3 := by omega
  have e0 : (m : Int) % 4294967296 = (m : Int) := by omega
  rw [e0, w64 _ (by omega) (by omega)]
  rcases hi4 with rfl | rfl | rfl | rfl
  · have h := or_low 0 m a (by simp at hx1 ⊢; omega) (by simp at hx1 ⊢; omega)
    have e : shl .u32 (m : Int) (8 * ((0 : Nat) : Int)) = ((2 ^ 0 * m : Nat) : Int) := by
      show ((m : Int) * 1) % 4294967296 = _
      omega
    rw [e, h]; simp; omega
  · have h := or_low 8 m a (by simp at hx1 ⊢; omega) (by simp at hx1 ⊢; omega)
    have e : shl .u32 (m : Int) (8 * ((1 : Nat) : Int)) = ((2 ^ 8 * m : Nat) : Int) := by
      show ((m : Int) * 256) % 4294967296 = _
      omega
    rw [e, h]; simp; omega
  · have h := or_low 16 m a (by simp at hx1 ⊢; omega) (by simp at hx1 ⊢; omega)
    have e : shl .u32 (m : Int) (8 * ((2 : Nat) : Int)) = ((2 ^ 16 * m : Nat) : Int) := by
      show ((m : Int) * 65536) % 4294967296 = _
      omega
    rw [e, h]; simp; omega
  · have h := or_low 24 m a (by simp at hx1 ⊢; omega) (by simp at hx1 ⊢; omega)
    have e : shl .u32 (m : Int) (8 * ((3 : Nat) : Int)) = ((2 ^ 24 * m : Nat) : Int) := by
      show ((m : Int) * 16777216) % 4294967296 = _
      omega
    rw [e, h]; simp; omega
end Go.Proofs.YtdbkefgdeenjoaaDoor.Plain
end
section
namespace Go.Proofs.YtdbkefgdeenjoaaDoor.Plain
set_option linter.unusedVariables false
set_option linter.unusedSimpArgs false
open Go.RowKit Go.Proofs.YtdbkefgdeenjoaaDoor.X Go.Proofs.YtdbkefgdeenjoaaDoorW.PrintWords Go.Proofs.YtdbkefgdeenjoaaDoorW.PrintLast Go.Proofs.YtdbkefgdeenjoaaDoorW.PrintMore
def I32 (l : List Int) : Prop := ∀ x ∈ l, -2147483648 ≤ x ∧ x ≤ 2147483647
theorem rd_mem (l : List Int) (i : Nat) (h : i < l.length) : rd l (i : Int) ∈ l := by rw [rd_nat l i h]; exact List.getElem_mem h
theorem take_succ (l : List Int) (i : Nat) (h : i < l.length) : l.take (i + 1) = l.take i ++ [rd l (i : Int)] := by
  rw [rd_nat l i h]; exact (List.take_append_getElem h).symm
theorem ours_loop (l : List Int) (hl : l.length ≤ 4294967296) (hw : I32 l) : ∀ (n i : Nat), i + n = l.length → Ev (fun k => grillelaw01_ours.l0 k (l.take i) l (l.length : Int) (i : Int)) l
  | 0, i, h => by
    refine Ev.succ ?_
    simp only [grillelaw01_ours.l0]
    refine Ev.neg (by omega) ((Ev.val _).eq ?_)
    exact List.take_of_length_le (by omega)
  | n + 1, i, h => by
    refine Ev.succ ?_
    simp only [grillelaw01_ours.l0]
    refine Ev.pos (by omega) (Ev.pos (by omega) (Ev.pos (by omega) (Ev.pos (by rw [List.length_take]; omega) ?_)))
    have hx := hw _ (rd_mem l i (by omega))
    rw [w64 (rd l (i : Int)) (by omega) (by omega), ← take_succ l i (by omega), w64' i (by omega)]
    exact ours_loop l hl hw n (i + 1) (by omega)
theorem ours_eq (l : List Int) (hl : l.length ≤ 4294967296) (hw : I32 l) : Ev (fun k => grillelaw01_ours.f k l) l := by
  simp only [grillelaw01_ours.f]
  exact ours_loop l hl hw l.length 0 (by omega)
theorem same_loop (a : List Int) (hl : a.length ≤ 4294967296) : ∀ (n i : Nat), i + n = a.length → Ev (fun k => grilleref01_Same.l0 k a a (i : Int)) true
  | 0, i, h => by
    refine Ev.succ ?_
    simp only [grilleref01_Same.l0]
    exact Ev.neg (by omega) (Ev.val _)
  | n + 1, i, h => by
    refine Ev.succ ?_
    simp only [grilleref01_Same.l0]
    refine Ev.pos (by omega) (Ev.pos (by omega) (Ev.pos (by omega) (Ev.pos (by simp) ?_)))
    rw [w64' i (by omega)]
    exact same_loop a hl n (i + 1) (by omega)
theorem same_eq (a : List Int) (hl : a.length ≤ 4294967296) : Ev (fun k => grilleref01_Same.f k a a) true := by
  simp only [grilleref01_Same.f]
  exact Ev.pos (by simp) (same_loop a hl a.length 0 (by omega))
theorem char_eq (r : Int) : grilleref01_Character.f r = some (decide (ok r)) := by
  unfold grilleref01_Character.f
  repeat' split
  all_goals (refine congrArg some (Bool.eq_iff_iff.mpr ?_); simp only [decide_eq_true_eq, bne_iff_ne, ne_eq, eq_self, Bool.false_eq_true, true_iff, false_iff, not_true_eq_false] at *; (try simp only [ok] at *); omega)
theorem bytes_eq (r : Int) (h : ok r) : grilleref01_Bytes.f r = some (Lib.encodeRuneZ r) := by
  obtain ⟨h0, h1, h2⟩ := h
  unfold grilleref01_Bytes.f
  have d (c : Int) (hc : 0 < c) : Int.tdiv r c = r / c := Int.tdiv_eq_ediv_of_nonneg h0
  have m (x c : Int) (hx : 0 ≤ x) : Int.tmod x c = x % c := Int.tmod_eq_emod_of_nonneg hx
  rw [d 64 (by decide), d 4096 (by decide), d 262144 (by decide)]
  rw [w64 (r / 64) (by omega) (by omega), w64 (r / 4096) (by omega) (by omega), w64 (r / 262144) (by omega) (by omega), m r 64 h0, m (r / 64) 64 (by omega), m (r / 4096) 64 (by omega)]
  rw [w64 (192 + r / 64) (by omega) (by omega), w64 (224 + r / 4096) (by omega) (by omega), w64 (240 + r / 262144) (by omega) (by omega), w64 (128 + r % 64) (by omega) (by omega), w64 (128 + r / 64 % 64) (by omega) (by omega), w64 (128 + r / 4096 % 64) (by omega) (by omega)]
  by_cases a : r < 128
  · rw [if_pos a, Lib.encodeRuneZ_one h0 (by omega), show r % 256 = r by omega]
  rw [if_neg a]
  by_cases b : r < 2048
  · rw [if_pos b, Lib.encodeRuneZ_two (by omega) (by omega), show (192 + r / 64) % 256 = 192 + r / 64 by omega, show (128 + r % 64) % 256 = 128 + r % 64 by omega]
  rw [if_neg b]
  by_cases c : r < 65536
  · rw [if_pos c, Lib.encodeRuneZ_three (by omega), show (224 + r / 4096) % 256 = 224 + r / 4096 by omega, show (128 + r / 64 % 64) % 256 = 128 + r / 64 % 64 by omega, show (128 + r % 64) % 256 = 128 + r % 64 by omega]
  · rw [if_neg c, Lib.encodeRuneZ_four (by omega) h1, show (240 + r / 262144) % 256 = 240 + r / 262144 by omega, show (128 + r / 4096 % 64) % 256 = 128 + r / 4096 % 64 by omega, show (128 + r / 64 % 64) % 256 = 128 + r / 64 % 64 by omega, show (128 + r % 64) % 256 = 128 + r % 64 by omega]
def may (r : Int) : Bool := decide (r = 9 ∨ r = 10 ∨ r = 13 ∨ r = 133 ∨ (32 ≤ r ∧ r < 127) ∨ (160 ≤ r ∧ ok r ∧ r ≠ 65279 ∧ r ≠ 65534 ∧ r ≠ 65535))
theorem may_eq (r : Int) : text_May.f r = some (may r) := by
  unfold text_May.f may
  rw [valid_eq]
  simp only [Option.bind_some]
  repeat' split
  all_goals (refine congrArg some (Bool.eq_iff_iff.mpr ?_); simp only [decide_eq_true_eq, bne_iff_ne, ne_eq, eq_self, Bool.false_eq_true, true_iff, false_iff, not_true_eq_false] at *; (try simp only [ok] at *); omega)
theorem rmay_eq (r : Int) : grilleref01_May.f r = some (may r) := by
  unfold grilleref01_May.f may
  rw [char_eq]
  simp only [Option.bind_some]
  repeat' split
  all_goals (refine congrArg some (Bool.eq_iff_iff.mpr ?_); simp only [decide_eq_true_eq, bne_iff_ne, ne_eq, eq_self, Bool.false_eq_true, true_iff, false_iff, not_true_eq_false] at *; (try simp only [ok] at *); omega)
end Go.Proofs.YtdbkefgdeenjoaaDoor.Plain
end
section
namespace Go.Proofs.YtdbkefgdeenjoaaDoor.Plain
set_option linter.unusedVariables false
set_option linter.unusedSimpArgs false
open Go.RowKit Go.Proofs.YtdbkefgdeenjoaaDoor.X Go.Proofs.YtdbkefgdeenjoaaDoorW.PrintWords Go.Proofs.YtdbkefgdeenjoaaDoorW.PrintLast Go.Proofs.YtdbkefgdeenjoaaDoorW.PrintMore
def cl : List Int → List Int
  | [] => []
  | r :: t => if r = 13 then (if t.head? = some 10 then cl t else 10 :: cl t) else Lib.encodeRuneZ r ++ cl t
def str (l : List Int) : ByteArray := ⟨(l.map fun x => UInt8.ofNat x.toNat).toArray⟩
def cleaned (l : List Int) : ByteArray × Int := if ∀ r ∈ l, may r = true then (str (cl l), 0) else ((⟨#[]⟩ : ByteArray), 7)
theorem may_ok {r : Int} (h : may r = true) : ok r := by
  unfold may at h
  simp only [decide_eq_true_eq] at h
  unfold ok at *
  omega
theorem clean_go : ∀ (l : List Int) (out : List UInt8), I32 l → text_Clean.go l out = some (if ∀ r ∈ l, may r = true then ((⟨(out ++ (cl l).map fun x => UInt8.ofNat x.toNat).toArray⟩ : ByteArray), 0) else ((⟨#[]⟩ : ByteArray), 7))
  | [], out, _ => by simp [text_Clean.go, cl]
  | r :: t, out, hw => by
    have ht : I32 t := fun x hx => hw x (List.mem_cons_of_mem _ hx)
    have hr := hw r (List.mem_cons_self)
    unfold text_Clean.go
    rw [may_eq]
    simp only [Option.bind_some]
    by_cases hm : may r = true
    · rw [if_pos hm]
      have e : (∀ x ∈ r :: t, may x = true) ↔ ∀ x ∈ t, may x = true := by simp [hm]
      simp only [e]
      by_cases h13 : r = 13
      · rw [if_pos h13]
        by_cases h10 : t.head? = some 10
        · rw [if_pos h10, clean_go t out ht]
          simp [cl, h13, h10]
        · rw [if_neg h10, clean_go t _ ht]
          simp [cl, h13, h10]
      · rw [if_neg h13, if_pos hr, clean_go t _ ht]
        simp [cl, h13, Lib.encodeRune]
    · rw [if_neg hm]
      rw [if_neg (fun h => hm (h r List.mem_cons_self))]
theorem clean_eq (l : List Int) (hl : l.length ≤ 4294967296) (hw : I32 l) : text_Clean.f l = some (cleaned l) := by
  unfold text_Clean.f cleaned str
  rw [if_pos hl, clean_go l [] hw]
  simp
set_option maxHeartbeats 4000000 in
theorem rclean_loop (l : List Int) (hl : l.length ≤ 2000) (hw : I32 l) : ∀ (n i : Nat) (acc : List Int), l.length ≤ i + n → acc.length ≤ 4 * i → i ≤ l.length →
    Ev (fun k => grilleref01_Clean.l0 k l acc (i : Int)) (if ∀ r ∈ l.drop i, may r = true then (str (acc ++ cl (l.drop i)), 0) else ((⟨#[]⟩ : ByteArray), 7)) := by
  intro n
  induction n with
  | zero =>
    intro i acc h ha hi
    refine Ev.succ ?_
    simp only [grilleref01_Clean.l0]
    refine Ev.neg (by omega) ((Ev.val _).eq ?_)
    rw [List.drop_eq_nil_of_le (by omega)]
    simp [cl, str, strOfNums]
  | succ n ih =>
    intro i acc h ha hi
    refine Ev.succ ?_
    simp only [grilleref01_Clean.l0]
    by_cases hlt : i < l.length
    case neg =>
      refine Ev.neg (by omega) ((Ev.val _).eq ?_)
      rw [List.drop_eq_nil_of_le (by omega)]
      simp [cl, str, strOfNums]
    refine Ev.pos (by omega) (Ev.pos (by omega) ?_)
    refine Ev.bind (Ev.one (rmay_eq _)) ?_
    rw [drop_nat l i hlt]
    by_cases hm : may (rd l (i : Int)) = true
    case neg =>
      refine Ev.neg hm ((Ev.val _).eq ?_)
      rw [if_neg (fun h => hm (h _ List.mem_cons_self))]
    refine Ev.pos hm ?_
    have e : (∀ x ∈ rd l (i : Int) :: l.drop (i + 1), may x = true) ↔ ∀ x ∈ l.drop (i + 1), may x = true := by simp [hm]
    simp only [e]
    by_cases h13 : rd l (i : Int) = 13
    · refine Ev.pos h13 (Ev.pos (by omega) (Ev.bind (Ev.val _) ?_))
      rw [w64' i (by omega)]
      by_cases hn : i + 1 < l.length
      · refine Ev.pos (by omega) (Ev.pos (by omega) ?_)
        have hh : (l.drop (i + 1)).head? = some (rd l ((i + 1 : Nat) : Int)) := by rw [drop_nat l (i + 1) hn]; rfl
        by_cases h10 : rd l ((i + 1 : Nat) : Int) = 10
        · refine Ev.pos h10 ?_
          rw [w64' (i + 1) (by omega)]
          refine (ih (i + 2) (acc ++ [10]) (by omega) (by rw [List.length_append]; simp; omega) (by omega)).eq ?_
          have e2 : (∀ x ∈ l.drop (i + 1), may x = true) ↔ ∀ x ∈ l.drop (i + 2), may x = true := by
            rw [drop_nat l (i + 1) hn, h10]
            have : may 10 = true := by decide
            simp [this]
          have e3 : cl (rd l (i : Int) :: l.drop (i + 1)) = 10 :: cl (l.drop (i + 2)) := by
            rw [cl, if_pos h13, if_pos (by rw [hh, h10]), drop_nat l (i + 1) hn, h10, cl, if_neg (by decide)]
            rfl
          simp only [e2, e3, List.append_assoc, List.cons_append, List.nil_append]
        · refine Ev.neg h10 ?_
          refine (ih (i + 1) (acc ++ [10]) (by omega) (by rw [List.length_append]; simp; omega) (by omega)).eq ?_
          have e3 : cl (rd l (i : Int) :: l.drop (i + 1)) = 10 :: cl (l.drop (i + 1)) := by
            rw [cl, if_pos h13, if_neg (by rw [hh]; simpa using h10)]
          simp only [e3, List.append_assoc, List.cons_append, List.nil_append]
      · refine Ev.neg (by omega) ?_
        refine (ih (i + 1) (acc ++ [10]) (by omega) (by rw [List.length_append]; simp; omega) (by omega)).eq ?_
        have hd : l.drop (i + 1) = [] := List.drop_eq_nil_of_le (by omega)
        simp [hd, cl, h13]
    · refine Ev.neg h13 ?_
      refine Ev.bind (Ev.one (bytes_eq _ (may_ok hm))) ?_
      have h4 := (Lib.encodeRuneZ_length (rd l (i : Int))).2
      refine Ev.pos (by omega) ?_
      rw [w64' i (by omega)]
      refine (ih (i + 1) (acc ++ Lib.encodeRuneZ (rd l (i : Int))) (by omega) (by rw [List.length_append]; omega) (by omega)).eq ?_
      have e3 : cl (rd l (i : Int) :: l.drop (i + 1)) = Lib.encodeRuneZ (rd l (i : Int)) ++ cl (l.drop (i + 1)) := by rw [cl, if_neg h13]
      simp only [e3, List.append_assoc]
theorem rclean_eq (l : List Int) (hl : l.length ≤ 2000) (hw : I32 l) : Ev (fun k => grilleref01_Clean.f k l) (cleaned l) := by
  simp only [grilleref01_Clean.f]
  exact (rclean_loop l hl hw l.length 0 [] (by omega) (by simp) (by omega)).eq (by simp [cleaned])
end Go.Proofs.YtdbkefgdeenjoaaDoor.Plain
end
section
namespace Go.Proofs.YtdbkefgdeenjoaaDoor.Plain
set_option linter.unusedVariables false
set_option linter.unusedSimpArgs false
open Go.RowKit Go.Proofs.YtdbkefgdeenjoaaDoor.X Go.Proofs.YtdbkefgdeenjoaaDoorW.PrintWords Go.Proofs.YtdbkefgdeenjoaaDoorW.PrintLast Go.Proofs.YtdbkefgdeenjoaaDoorW.PrintMore
def decI (n b0 b1 b2 b3 : Int) : Option (Int × Nat) :=
  if b0 < 128 then some (b0, 1)
  else if b0 / 32 = 6 ∧ 1 < n ∧ b1 / 64 = 2 then
    (if 128 ≤ b0 % 32 * 64 + b1 % 64 then some (b0 % 32 * 64 + b1 % 64, 2) else none)
  else if b0 / 16 = 14 ∧ (1 < n ∧ b1 / 64 = 2) ∧ (2 < n ∧ b2 / 64 = 2) then
    (if 2048 ≤ b0 % 16 * 4096 + b1 % 64 * 64 + b2 % 64 ∧ ok (b0 % 16 * 4096 + b1 % 64 * 64 + b2 % 64) then some (b0 % 16 * 4096 + b1 % 64 * 64 + b2 % 64, 3) else none)
  else if b0 / 8 = 30 ∧ (1 < n ∧ b1 / 64 = 2) ∧ (2 < n ∧ b2 / 64 = 2) ∧ (3 < n ∧ b3 / 64 = 2) then
    (if 65536 ≤ b0 % 8 * 262144 + b1 % 64 * 4096 + b2 % 64 * 64 + b3 % 64 ∧ ok (b0 % 8 * 262144 + b1 % 64 * 4096 + b2 % 64 * 64 + b3 % 64) then some (b0 % 8 * 262144 + b1 % 64 * 4096 + b2 % 64 * 64 + b3 % 64, 4) else none)
  else none
def dec1 (b : List Int) : Option (Int × Nat) := decI b.length (rd b 0) (rd b 1) (rd b 2) (rd b 3)
theorem decN (n b0 b1 b2 b3 : Nat) (h0 : b0 < 256) : Lib.decodeN n b0 b1 b2 b3 = match decI n b0 b1 b2 b3 with | some p => (p.1.toNat, p.2) | none => (65533, 1) := by
  unfold Lib.decodeN decI
  by_cases c1 : b0 < 128
  · have C1 : (b0 : Int) < 128 := by omega
    rw [if_pos c1, if_pos C1]
    simp
  have C1 : ¬ (b0 : Int) < 128 := by omega
  rw [if_neg c1, if_neg C1]
  by_cases c2 : b0 / 32 = 6 ∧ (1 < n ∧ b1 / 64 = 2)
  · have C2 : (b0 : Int) / 32 = 6 ∧ 1 < (n : Int) ∧ (b1 : Int) / 64 = 2 := by omega
    rw [if_pos c2, if_pos C2]
    by_cases d : b0 % 32 * 64 + b1 % 64 ≥ 128
    · have D : 128 ≤ (b0 : Int) % 32 * 64 + (b1 : Int) % 64 := by omega
      rw [if_pos d, if_pos D]
      simp only [Prod.mk.injEq, and_true]
      omega
    · have D : ¬ 128 ≤ (b0 : Int) % 32 * 64 + (b1 : Int) % 64 := by omega
      rw [if_neg d, if_neg D]
  have C2 : ¬ ((b0 : Int) / 32 = 6 ∧ 1 < (n : Int) ∧ (b1 : Int) / 64 = 2) := by omega
  rw [if_neg c2, if_neg C2]
  by_cases c3 : b0 / 16 = 14 ∧ (1 < n ∧ b1 / 64 = 2) ∧ (2 < n ∧ b2 / 64 = 2)
  · have C3 : (b0 : Int) / 16 = 14 ∧ (1 < (n : Int) ∧ (b1 : Int) / 64 = 2) ∧ (2 < (n : Int) ∧ (b2 : Int) / 64 = 2) := by omega
    rw [if_pos c3, if_pos C3]
    by_cases d : b0 % 16 * 4096 + b1 % 64 * 64 + b2 % 64 ≥ 2048 ∧ (b0 % 16 * 4096 + b1 % 64 * 64 + b2 % 64 < 55296 ∨ (57344 ≤ b0 % 16 * 4096 + b1 % 64 * 64 + b2 % 64 ∧ b0 % 16 * 4096 + b1 % 64 * 64 + b2 % 64 ≤ 1114111))
    · have D : 2048 ≤ (b0 : Int) % 16 * 4096 + (b1 : Int) % 64 * 64 + (b2 : Int) % 64 ∧ ok ((b0 : Int) % 16 * 4096 + (b1 : Int) % 64 * 64 + (b2 : Int) % 64) := by unfold ok; omega
      rw [if_pos d, if_pos D]
      simp only [Prod.mk.injEq, and_true]
      omega
    · have D : ¬ (2048 ≤ (b0 : Int) % 16 * 4096 + (b1 : Int) % 64 * 64 + (b2 : Int) % 64 ∧ ok ((b0 : Int) % 16 * 4096 + (b1 : Int) % 64 * 64 + (b2 : Int) % 64)) := by unfold ok; omega
      rw [if_neg d, if_neg D]
  have C3 : ¬ ((b0 : Int) / 16 = 14 ∧ (1 < (n : Int) ∧ (b1 : Int) / 64 = 2) ∧ (2 < (n : Int) ∧ (b2 : Int) / 64 = 2)) := by omega
  rw [if_neg c3, if_neg C3]
  by_cases c4 : b0 / 8 = 30 ∧ (1 < n ∧ b1 / 64 = 2) ∧ (2 < n ∧ b2 / 64 = 2) ∧ (3 < n ∧ b3 / 64 = 2)
  · have C4 : (b0 : Int) / 8 = 30 ∧ (1 < (n : Int) ∧ (b1 : Int) / 64 = 2) ∧ (2 < (n : Int) ∧ (b2 : Int) / 64 = 2) ∧ (3 < (n : Int) ∧ (b3 : Int) / 64 = 2) := by omega
    rw [if_pos c4, if_pos C4]
    by_cases d : b0 % 8 * 262144 + b1 % 64 * 4096 + b2 % 64 * 64 + b3 % 64 ≥ 65536 ∧ (b0 % 8 * 262144 + b1 % 64 * 4096 + b2 % 64 * 64 + b3 % 64 < 55296 ∨ (57344 ≤ b0 % 8 * 262144 + b1 % 64 * 4096 + b2 % 64 * 64 + b3 % 64 ∧ b0 % 8 * 262144 + b1 % 64 * 4096 + b2 % 64 * 64 + b3 % 64 ≤ 1114111))
    · have D : 65536 ≤ (b0 : Int) % 8 * 262144 + (b1 : Int) % 64 * 4096 + (b2 : Int) % 64 * 64 + (b3 : Int) % 64 ∧ ok ((b0 : Int) % 8 * 262144 + (b1 : Int) % 64 * 4096 + (b2 : Int) % 64 * 64 + (b3 : Int) % 64) := by unfold ok; omega
      rw [if_pos d, if_pos D]
      simp only [Prod.mk.injEq, and_true]
      omega
    · have D : ¬ (65536 ≤ (b0 : Int) % 8 * 262144 + (b1 : Int) % 64 * 4096 + (b2 : Int) % 64 * 64 + (b3 : Int) % 64 ∧ ok ((b0 : Int) % 8 * 262144 + (b1 : Int) % 64 * 4096 + (b2 : Int) % 64 * 64 + (b3 : Int) % 64)) := by unfold ok; omega
      rw [if_neg d, if_neg D]
  have C4 : ¬ ((b0 : Int) / 8 = 30 ∧ (1 < (n : Int) ∧ (b1 : Int) / 64 = 2) ∧ (2 < (n : Int) ∧ (b2 : Int) / 64 = 2) ∧ (3 < (n : Int) ∧ (b3 : Int) / 64 = 2)) := by omega
  rw [if_neg c4, if_neg C4]
theorem decI_ok (n b0 b1 b2 b3 r : Int) (w : Nat) (h0 : 0 ≤ b0) (h : decI n b0 b1 b2 b3 = some (r, w)) : ok r ∧ 1 ≤ w ∧ w ≤ 4 ∧ ((w : Int) ≤ n ∨ w = 1) ∧ ¬ (r = 65533 ∧ w < 2) := by
  unfold decI at h
  repeat' split at h
  all_goals (first | (cases h; done) | (simp only [Option.some.injEq, Prod.mk.injEq] at h; obtain ⟨rfl, rfl⟩ := h; unfold ok at *; omega))
theorem rd_bts {b : List Int} (hb : Bts b) (i : Nat) : 0 ≤ rd b (i : Int) ∧ rd b (i : Int) < 256 := by
  by_cases h : i < b.length
  · exact hb _ (rd_mem b i h)
  · unfold rd
    rw [List.getD_eq_getElem?_getD, show ((i : Int)).toNat = i from by omega, List.getElem?_eq_none (by omega)]
    decide
theorem str_size (b : List Int) : (str b).size = b.length := by unfold str; simp [ByteArray.size]
theorem str_get {b : List Int} (hb : Bts b) (i : Nat) : ((str b).get! i).toNat = (rd b (i : Int)).toNat := by
  obtain ⟨h0, h1⟩ := rd_bts hb i
  by_cases h : i < b.length
  · have hj2 : i < (b.map fun x => UInt8.ofNat x.toNat).toArray.size := by simpa using h
    have : (str b).get! i = UInt8.ofNat (rd b (i : Int)).toNat := by
      show ((b.map fun x => UInt8.ofNat x.toNat).toArray)[i]! = _
      rw [getElem!_pos _ i hj2, rd_nat b i h]; simp
    rw [this, UInt8.toNat_ofNat']
    omega
  · have hj2 : ¬ i < (b.map fun x => UInt8.ofNat x.toNat).toArray.size := by simpa using h
    have : (str b).get! i = 0 := by
      show ((b.map fun x => UInt8.ofNat x.toNat).toArray)[i]! = _
      rw [getElem!_neg _ i hj2]; rfl
    rw [this]
    unfold rd
    rw [List.getD_eq_getElem?_getD, show ((i : Int)).toNat = i from by omega, List.getElem?_eq_none (by omega)]
    rfl
theorem decode_str {b : List Int} (hb : Bts b) (hn : b ≠ []) : Lib.decodeGo (str b) = match dec1 b with | some p => (p.1.toNat, p.2) | none => (65533, 1) := by
  have hp : 0 < b.length := List.length_pos_iff.mpr hn
  have e0 := str_get hb 0
  have e1 := str_get hb 1
  have e2 := str_get hb 2
  have e3 := str_get hb 3
  obtain ⟨x0, y0⟩ := rd_bts hb 0
  obtain ⟨x1, y1⟩ := rd_bts hb 1
  obtain ⟨x2, y2⟩ := rd_bts hb 2
  obtain ⟨x3, y3⟩ := rd_bts hb 3
  unfold Lib.decodeGo
  rw [if_neg (by rw [str_size]; omega), Lib.decode_at, str_size, e0, show 0 + 1 = 1 from rfl, show 0 + 2 = 2 from rfl, show 0 + 3 = 3 from rfl, e1, e2, e3, decN _ _ _ _ _ (by omega)]
  unfold dec1
  rw [Int.toNat_of_nonneg x0, Int.toNat_of_nonneg x1, Int.toNat_of_nonneg x2, Int.toNat_of_nonneg x3]
  rfl
def plainL : Nat → List Int → Option (List Int)
  | _, [] => some []
  | 0, _ :: _ => none
  | n + 1, a :: t => (dec1 (a :: t)).bind fun p => (plainL n ((a :: t).drop p.2)).map (p.1 :: ·)
theorem plainL_ok : ∀ (n : Nat) (b l : List Int), Bts b → plainL n b = some l → ∀ r ∈ l, ok r
  | _, [], l, hb, h => by simp [plainL] at h; subst h; simp
  | 0, _ :: _, l, hb, h => by simp [plainL] at h
  | n + 1, a :: t, l, hb, h => by
    unfold plainL at h
    cases hd : dec1 (a :: t) with
    | none => rw [hd] at h; cases h
    | some p =>
      rw [hd] at h
      simp only [Option.bind_some] at h
      cases he : plainL n ((a :: t).drop p.2) with
      | none => rw [he] at h; cases h
      | some m =>
        rw [he] at h
        simp only [Option.map_some, Option.some.injEq] at h
        subst h
        intro r hr
        rcases List.mem_cons.mp hr with rfl | hr
        · exact (decI_ok _ _ _ _ _ _ p.2 (rd_bts hb 0).1 hd).1
        · exact plainL_ok n _ m (fun x hx => hb x (List.mem_of_mem_drop hx)) he r hr
end Go.Proofs.YtdbkefgdeenjoaaDoor.Plain
end
section
namespace Go.Proofs.YtdbkefgdeenjoaaDoor.Plain
set_option linter.unusedVariables false
set_option linter.unusedSimpArgs false
open Go.RowKit Go.Proofs.YtdbkefgdeenjoaaDoor.X Go.Proofs.YtdbkefgdeenjoaaDoorW.PrintWords Go.Proofs.YtdbkefgdeenjoaaDoorW.PrintLast Go.Proofs.YtdbkefgdeenjoaaDoorW.PrintMore
def us2 (big : Bool) : List Int → List Int
  | a :: b :: t => (if big = true then a * 256 + b else a + b * 256) :: us2 big t
  | _ => []
def us4 (big : Bool) : List Int → List Int
  | a :: b :: c :: d :: t => (if big = true then ((a * 256 + b) * 256 + c) * 256 + d else a + b * 256 + c * 65536 + d * 16777216) :: us4 big t
  | _ => []
theorem units_step (x0 row out : List Int) (s : Int) (big : Bool) (x : Int) (i : Nat) (v : List Int × Bool) (hi : i < row.length) (h3 : row.length ≤ 4) (hb : Bts row) (hx : 0 ≤ x) (hx1 : x < 2 ^ (8 * i))
    (h : Ev (fun k => text_units.l1 k x0 s big out (if big = true then x * 256 + rd row (i : Int) else x + rd row (i : Int) * 2 ^ (8 * i)) row (row.length : Int) ((i + 1 : Nat) : Int)) v) : Ev (fun k => text_units.l1 k x0 s big out x row (row.length : Int) (i : Int)) v := by
  obtain ⟨c0, c1⟩ := hb (rd row (i : Int)) (by rw [rd_nat row i hi]; exact List.getElem_mem hi)
  refine Ev.succ ?_
  simp only [text_units.l1]
  refine Ev.pos (by omega) (Ev.pos (by omega) (Ev.pos (by omega) ?_))
  rw [w64' i (by omega)]
  have hi4 : i = 0 ∨ i = 1 ∨ i = 2 ∨ i = 3 := by omega
  have hx2 : x < 16777216 := by rcases hi4 with rfl | rfl | rfl | rfl <;> simp at hx1 <;> omega
  cases big
  · refine Ev.neg (by decide) (Ev.pos ?_ ?_)
    · rw [w64 _ (by omega) (by omega)]; omega
    · rw [or_little x _ i (by omega) hx hx1 c0 c1]
      simpa using h
  · refine Ev.pos rfl ?_
    rw [or_big x _ hx hx2 c0 c1]
    simpa using h
theorem units_end (x0 row out : List Int) (s : Nat) (big : Bool) (x : Int) (v : List Int × Bool) (hs : s ≤ x0.length) (ho : out.length < 35184372088832)
    (h : Ev (fun k => text_units.l0 k (x0.drop s) (s : Int) big (out ++ [x])) v) : Ev (fun k => text_units.l1 k x0 (s : Int) big out x row (row.length : Int) (row.length : Int)) v := by
  refine Ev.succ ?_
  simp only [text_units.l1]
  refine Ev.neg (by omega) (Ev.pos ho (Ev.pos (by omega) (Ev.pos (by omega) ?_)))
  simpa using h
theorem units_nil (s : Int) (big : Bool) (out : List Int) : Ev (fun k => text_units.l0 k [] s big out) (out, true) := by
  refine Ev.succ ?_
  simp only [text_units.l0]
  exact Ev.neg (by simp) (Ev.val _)
theorem units2 (big : Bool) : ∀ (n : Nat) (b out : List Int), b.length = 2 * n → out.length + n ≤ 4294967296 → Bts b → Ev (fun k => text_units.l0 k b 2 big out) (out ++ us2 big b, true)
  | 0, [], out, _, _, _ => (units_nil 2 big out).eq (by simp [us2])
  | 0, _ :: _, out, h, _, _ => by simp at h
  | n + 1, [], out, h, _, _ => by simp at h
  | n + 1, [_], out, h, _, _ => by simp at h; omega
  | n + 1, a :: b :: t, out, h, ho, hb => by
    have hr : Bts [a, b] := fun x hx => hb x (by simp at hx ⊢; omega)
    have ht : Bts t := fun x hx => hb x (by simp [hx])
    have ha := hb a (by simp)
    refine Ev.succ ?_
    simp only [text_units.l0]
    refine Ev.pos (by simp; omega) (Ev.pos (by decide) (Ev.pos (by simp; omega) (Ev.bind (Ev.val _) ?_)))
    show Ev (fun k => text_units.l1 k (a :: b :: t) 2 big out 0 [a, b] (([a, b] : List Int).length : Int) ((0 : Nat) : Int)) _
    refine units_step _ [a, b] out 2 big 0 0 _ (by simp) (by simp) hr (by decide) (by decide) ?_
    refine units_step _ [a, b] out 2 big _ 1 _ (by simp) (by simp) hr (by cases big <;> simp [rd] <;> omega) (by cases big <;> simp [rd] <;> omega) ?_
    refine units_end (a :: b :: t) [a, b] out 2 big _ _ (by simp) (by omega) ?_
    refine (units2 big n t _ (by simp at h; omega) (by simp; omega) ht).eq ?_
    cases big <;> simp [us2, rd]
theorem units4 (big : Bool) : ∀ (n : Nat) (b out : List Int), b.length = 4 * n → out.length + n ≤ 4294967296 → Bts b → Ev (fun k => text_units.l0 k b 4 big out) (out ++ us4 big b, true)
  | 0, [], out, _, _, _ => (units_nil 4 big out).eq (by simp [us4])
  | 0, _ :: _, out, h, _, _ => by simp at h
  | n + 1, [], out, h, _, _ => by simp at h
  | n + 1, [_], out, h, _, _ => by simp at h; omega
  | n + 1, [_, _], out, h, _, _ => by simp at h; omega
  | n + 1, [_, _, _], out, h, _, _ => by simp at h; omega
  | n + 1, a :: b :: c :: d :: t, out, h, ho, hb => by
    have hr : Bts [a, b, c, d] := fun x hx => hb x (by simp at hx ⊢; omega)
    have ht : Bts t := fun x hx => hb x (by simp [hx])
    have ha := hb a (by simp)
    have hb1 := hb b (by simp)
    have hc := hb c (by simp)
    refine Ev.succ ?_
    simp only [text_units.l0]
    refine Ev.pos (by simp; omega) (Ev.pos (by decide) (Ev.pos (by simp; omega) (Ev.bind (Ev.val _) ?_)))
    show Ev (fun k => text_units.l1 k (a :: b :: c :: d :: t) 4 big out 0 [a, b, c, d] (([a, b, c, d] : List Int).length : Int) ((0 : Nat) : Int)) _
    refine units_step _ [a, b, c, d] out 4 big 0 0 _ (by simp) (by simp) hr (by decide) (by decide) ?_
    refine units_step _ [a, b, c, d] out 4 big _ 1 _ (by simp) (by simp) hr (by cases big <;> simp [rd] <;> omega) (by cases big <;> simp [rd] <;> omega) ?_
    refine units_step _ [a, b, c, d] out 4 big _ 2 _ (by simp) (by simp) hr (by cases big <;> simp [rd] <;> omega) (by cases big <;> simp [rd] <;> omega) ?_
    refine units_step _ [a, b, c, d] out 4 big _ 3 _ (by simp) (by simp) hr (by cases big <;> simp [rd] <;> omega) (by cases big <;> simp [rd] <;> omega) ?_
    refine units_end (a :: b :: c :: d :: t) [a, b, c, d] out 4 big _ _ (by simp) (by omega) ?_
    refine (units4 big n t _ (by simp at h; omega) (by simp; omega) ht).eq ?_
    cases big <;> simp [us4, rd]
def us (size : Int) (big : Bool) (b : List Int) : List Int := if size = 2 then us2 big b else us4 big b
theorem units_eq (size : Int) (big : Bool) (b : List Int) (hs : size = 2 ∨ size = 4) (hl : b.length ≤ 4294967296) (hb : Bts b) :
    Ev (fun k => text_units.f k b size big) (if (b.length : Int) % size = 0 then (us size big b, true) else ([], false)) := by
  simp only [text_units.f]
  rcases hs with rfl | rfl
  · refine Ev.neg (by decide) (Ev.ite (fun h => ?_) (fun _ => Ev.val _))
    exact (units2 big (b.length / 2) b [] (by omega) (by simp; omega) hb).eq (by simp [us])
  · refine Ev.neg (by decide) (Ev.ite (fun h => ?_) (fun _ => Ev.val _))
    exact (units4 big (b.length / 4) b [] (by omega) (by simp; omega) hb).eq (by simp [us])
end Go.Proofs.YtdbkefgdeenjoaaDoor.Plain
end
section
namespace Go.Proofs.YtdbkefgdeenjoaaDoor.Plain
set_option linter.unusedVariables false
set_option linter.unusedSimpArgs false
open Go.RowKit Go.Proofs.YtdbkefgdeenjoaaDoor.X Go.Proofs.YtdbkefgdeenjoaaDoorW.PrintWords Go.Proofs.YtdbkefgdeenjoaaDoorW.PrintLast Go.Proofs.YtdbkefgdeenjoaaDoorW.PrintMore
theorem dec_eq {b : List Int} (hb : Bts b) (hn : b ≠ []) : utf8_DecodeRune.f b = some (match dec1 b with | some p => (p.1, (p.2 : Int)) | none => (65533, 1)) := by
  unfold utf8_DecodeRune.f
  rw [if_pos ⟨hn, fun x hx => ⟨(hb x hx).1, by have := (hb x hx).2; omega⟩⟩]
  rw [show utf8_DecodeRune.bytes b = str b from rfl, decode_str hb hn]
  cases hd : dec1 b with
  | none => rfl
  | some p =>
    have := (decI_ok _ _ _ _ _ p.1 p.2 (rd_bts hb 0).1 hd).1.1
    show some (((p.1.toNat : Nat) : Int), _) = _
    rw [Int.toNat_of_nonneg this]
def res (out : List Int) : Option (List Int) → List Int × Bool
  | some l => (out ++ l, true)
  | none => ([], false)
theorem res_map (out : List Int) (r : Int) (o : Option (List Int)) : res (out ++ [r]) o = res out (o.map (r :: ·)) := by
  cases o <;> simp [res]
theorem dec1_le {b : List Int} (hb : Bts b) (hn : b ≠ []) {r : Int} {w : Nat} (h : dec1 b = some (r, w)) : 1 ≤ w ∧ w ≤ b.length := by
  have := decI_ok _ _ _ _ _ r w (rd_bts hb 0).1 h
  have hp : 0 < b.length := List.length_pos_iff.mpr hn
  omega
theorem bts_drop {b : List Int} (hb : Bts b) (n : Nat) : Bts (b.drop n) := fun x hx => hb x (List.mem_of_mem_drop hx)
theorem plain_loop : ∀ (n : Nat) (b out : List Int), b.length ≤ n → Bts b → out.length + b.length ≤ 4294967296 → Ev (fun k => text_plain.l0 k b out) (res out (plainL n b))
  | n, [], out, _, _, _ => by
    refine Ev.succ ?_
    simp only [text_plain.l0]
    refine Ev.neg (by simp) ((Ev.val _).eq ?_)
    cases n <;> simp [plainL, res]
  | 0, _ :: _, out, h, _, _ => by simp at h
  | n + 1, a :: t, out, h, hb, ho => by
    refine Ev.succ ?_
    simp only [text_plain.l0]
    refine Ev.pos (by simp) ?_
    refine Ev.bind (Ev.one (dec_eq hb (by simp))) ?_
    have hun : plainL (n + 1) (a :: t) = (dec1 (a :: t)).bind fun p => (plainL n ((a :: t).drop p.2)).map (p.1 :: ·) := rfl
    rw [hun]
    cases hd : dec1 (a :: t) with
    | none => exact Ev.pos rfl (Ev.pos (by decide) ((Ev.val _).eq rfl))
    | some p =>
      obtain ⟨r, w⟩ := p
      obtain ⟨h1, h2⟩ := dec1_le hb (by simp) hd
      have hk := (decI_ok _ _ _ _ _ r w (rd_bts hb 0).1 hd).2.2.2.2
      have step : Ev (fun k => text_plain.l0 k ((a :: t).drop ((w : Int)).toNat) (out ++ [r])) (res out ((plainL n ((a :: t).drop w)).map (r :: ·))) := by
        rw [show ((w : Int)).toNat = w from by omega, ← res_map]
        exact plain_loop n _ _ (by rw [List.length_drop]; simp at h ⊢; omega) (bts_drop hb w) (by rw [List.length_append, List.length_drop]; simp at ho ⊢; omega)
      have all : Ev (fun k => if out.length < 35184372088832 then (if 0 ≤ (w : Int) then (if (w : Int) ≤ ((a :: t).length : Int) then text_plain.l0 k ((a :: t).drop ((w : Int)).toNat) (out ++ [r]) else none) else none) else none) (res out ((plainL n ((a :: t).drop w)).map (r :: ·))) :=
        Ev.pos (by omega) (Ev.pos (by omega) (Ev.pos (by omega) step))
      show Ev _ (res out ((plainL n ((a :: t).drop w)).map (r :: ·)))
      by_cases hr : r = 65533
      · exact Ev.pos hr (Ev.neg (by show ¬ (w : Int) < 2; omega) all)
      · exact Ev.neg hr all
theorem plain_eq (b : List Int) (hb : Bts b) (hl : b.length ≤ 4294967296) : Ev (fun k => text_plain.f k b) (res [] (plainL b.length b)) := by
  simp only [text_plain.f]
  exact plain_loop b.length b [] (by omega) hb (by simpa using hl)
def prs : List Int → Option (List Int)
  | [] => some []
  | [n] => if 55296 ≤ n ∧ n < 57344 then none else some [n]
  | n :: m :: u => if 56320 ≤ n ∧ n < 57344 then none else if 55296 ≤ n ∧ n < 56320 then (if 56320 ≤ m ∧ m < 57344 then (prs u).map ((65536 + (n - 55296) * 1024 + (m - 56320)) :: ·) else none) else (prs (m :: u)).map (n :: ·)
theorem prs_second (n : Int) (t : List Int) (h : 56320 ≤ n ∧ n < 57344) : prs (n :: t) = none := by
  cases t with
  | nil => simp only [prs]; rw [if_pos (by omega)]
  | cons m u => simp only [prs]; rw [if_pos h]
theorem prs_other (n : Int) (t : List Int) (h : ¬ (55296 ≤ n ∧ n < 57344)) : prs (n :: t) = (prs t).map (n :: ·) := by
  cases t with
  | nil => simp only [prs]; rw [if_neg h]; rfl
  | cons m u => simp only [prs]; rw [if_neg (by omega), if_neg (by omega)]
theorem prs_pair (n m : Int) (t : List Int) (h : 55296 ≤ n ∧ n < 56320) (h' : 56320 ≤ m ∧ m < 57344) : prs (n :: m :: t) = (prs t).map ((65536 + (n - 55296) * 1024 + (m - 56320)) :: ·) := by
  simp only [prs]; rw [if_neg (by omega), if_pos h, if_pos h']
theorem prs_alone (n m : Int) (t : List Int) (h : 55296 ≤ n ∧ n < 56320) (h' : ¬ (56320 ≤ m ∧ m < 57344)) : prs (n :: m :: t) = none := by
  simp only [prs]; rw [if_neg (by omega), if_pos h, if_neg h']
theorem prs_last (n : Int) (h : 55296 ≤ n ∧ n < 56320) : prs [n] = none := by
  simp only [prs]; rw [if_pos (by omega)]
theorem map_app (out : List Int) (c : Int) (o : Option (List Int)) : o.map (fun q => (out ++ [c]) ++ q) = (o.map (c :: ·)).map (out ++ ·) := by
  cases o <;> simp
def pend (high : Int) : List Int := if high = 0 then [] else [high]
theorem pairs_loop (l : List Int) (hl : l.length ≤ 4294967296) (hw : ∀ x ∈ l, 0 ≤ x ∧ x < 65536) : ∀ (n i : Nat) (out : List Int) (high : Int), i + n = l.length → out.length ≤ i → (∀ x ∈ out, 0 ≤ x) → (high = 0 ∨ (55296 ≤ high ∧ high < 56320)) →
    ∃ p, Ev (fun k => text_pairs.l0 k out high l (l.length : Int) (i : Int)) p ∧ p.1.length ≤ l.length ∧ (∀ x ∈ p.1, 0 ≤ x) ∧ (prs (pend high ++ l.drop i)).map (out ++ ·) = if p.2 = true then some p.1 else none := by
  intro n
  induction n with
  | zero =>
    intro i out high h ho hx hh
    refine ⟨(out, high == 0), ?_, (by show out.length ≤ l.length; omega), hx, ?_⟩
    · refine Ev.succ ?_
      simp only [text_pairs.l0]
      exact Ev.neg (by omega) (Ev.val _)
    · rw [List.drop_eq_nil_of_le (by omega)]
      rcases hh with rfl | hh
      · simp [pend, prs]
      · have : high ≠ 0 := by omega
        rw [pend, if_neg this, List.append_nil, prs_last high hh]
        simp [this]
  | succ n ih =>
    intro i out high h ho hx hh
    obtain ⟨a, ea⟩ : ∃ a, rd l (i : Int) = a := ⟨_, rfl⟩
    have hc := hw _ (rd_mem l i (by omega))
    rw [ea] at hc
    have hd : l.drop i = a :: l.drop (i + 1) := by rw [← ea]; exact drop_nat l i (by omega)
    have hj : ∃ p, Ev (fun k => text_pairs.j1 k out high a (decide (56320 ≤ a ∧ a < 57344)) l (l.length : Int) (i : Int)) p ∧ p.1.length ≤ l.length ∧ (∀ x ∈ p.1, 0 ≤ x) ∧ (prs (pend high ++ l.drop i)).map (out ++ ·) = if p.2 = true then some p.1 else none := by
      have ei : wrap64 ((i : Int) + 1) = ((i + 1 : Nat) : Int) := w64' i (by omega)
      by_cases hs : 56320 ≤ a ∧ a < 57344
      · rw [show decide (56320 ≤ a ∧ a < 57344) = true from decide_eq_true hs]
        rcases hh with rfl | hh
        · refine ⟨([], false), ?_, by simp, by simp, ?_⟩
          · refine Ev.succ ?_
            simp only [text_pairs.j1]
            exact Ev.pos (by decide) (Ev.val _)
          · rw [hd, pend, if_pos rfl, List.nil_append, prs_second a _ hs]; rfl
        · have hn : high ≠ 0 := by omega
          have ec : ((65536 + (((high - 55296) % 4294967296) * 1024)) + (a - 56320)) % 4294967296 = 65536 + (high - 55296) * 1024 + (a - 56320) := by omega
          obtain ⟨p, h1, h2, h3, h4⟩ := ih (i + 1) (out ++ [65536 + (high - 55296) * 1024 + (a - 56320)]) 0 (by omega) (by rw [List.length_append]; simp; omega) (by
            intro x hxx
            rcases List.mem_append.mp hxx with hq | hq
            · exact hx x hq
            · obtain rfl := List.mem_singleton.mp hq; omega) (.inl rfl)
          refine ⟨p, ?_, h2, h3, ?_⟩
          · refine Ev.succ ?_
            simp only [text_pairs.j1]
            refine Ev.neg (by simp [hn]) (Ev.pos (by simp) (Ev.pos (by omega) ?_))
            rw [ec, ei]
            exact h1
          · rw [hd, pend, if_neg hn, List.cons_append, List.nil_append, prs_pair _ _ _ hh hs, ← h4, pend, if_pos rfl, List.nil_append, map_app]
      · rw [show decide (56320 ≤ a ∧ a < 57344) = false from decide_eq_false hs]
        rcases hh with rfl | hh
        · by_cases hg : 55296 ≤ a ∧ a < 56320
          · obtain ⟨p, h1, h2, h3, h4⟩ := ih (i + 1) out a (by omega) (by omega) hx (.inr hg)
            refine ⟨p, ?_, h2, h3, ?_⟩
            · refine Ev.succ ?_
              simp only [text_pairs.j1]
              refine Ev.neg (by decide) (Ev.neg (by decide) (Ev.pos (by omega) (Ev.pos (by omega) ?_)))
              rw [ei]
              exact h1
            · rw [hd, pend, if_pos rfl, List.nil_append, ← h4, pend, if_neg (by omega)]; rfl
          · obtain ⟨p, h1, h2, h3, h4⟩ := ih (i + 1) (out ++ [a]) 0 (by omega) (by rw [List.length_append]; simp; omega) (by
              intro x hxx
              rcases List.mem_append.mp hxx with hq | hq
              · exact hx x hq
              · obtain rfl := List.mem_singleton.mp hq; omega) (.inl rfl)
            refine ⟨p, ?_, h2, h3, ?_⟩
            · refine Ev.succ ?_
              simp only [text_pairs.j1]
              refine Ev.neg (by decide) (Ev.neg (by decide) ?_)
              by_cases hg1 : a ≥ 55296
              · refine Ev.pos hg1 (Ev.neg (by omega) (Ev.pos (by omega) ?_))
                rw [ei]; exact h1
              · refine Ev.neg hg1 (Ev.pos (by omega) ?_)
                rw [ei]; exact h1
            · rw [hd, pend, if_pos rfl, List.nil_append, prs_other a _ (by omega), ← h4, pend, if_pos rfl, List.nil_append, map_app]
        · have hn : high ≠ 0 := by omega
          refine ⟨([], false), ?_, by simp, by simp, ?_⟩
          · refine Ev.succ ?_
            simp only [text_pairs.j1]
            exact Ev.pos (by simp [hn]) (Ev.val _)
          · rw [hd, pend, if_neg hn, List.cons_append, List.nil_append, prs_alone _ _ _ hh hs]; rfl
    obtain ⟨p, h1, h2⟩ := hj
    refine ⟨p, ?_, h2⟩
    refine Ev.succ ?_
    simp only [text_pairs.l0]
    refine Ev.pos (by omega) (Ev.pos (by omega) (Ev.pos (by omega) ?_))
    rw [ea]
    by_cases hs : a ≥ 56320
    · refine Ev.pos hs ?_
      rw [show decide (a < 57344) = decide (56320 ≤ a ∧ a < 57344) from decide_eq_decide.mpr (by omega)]
      exact h1
    · refine Ev.neg hs ?_
      rw [show decide (56320 ≤ a ∧ a < 57344) = false from decide_eq_false (by omega)] at h1
      exact h1
theorem pairs_eq (l : List Int) (hl : l.length ≤ 4294967296) (hw : ∀ x ∈ l, 0 ≤ x ∧ x < 65536) :
    ∃ p, Ev (fun k => text_pairs.f k l) p ∧ p.1.length ≤ l.length ∧ (∀ x ∈ p.1, 0 ≤ x) ∧ prs l = if p.2 = true then some p.1 else none := by
  obtain ⟨p, h1, h2, h3, h4⟩ := pairs_loop l hl hw l.length 0 [] 0 (by omega) (by simp) (by simp) (.inl rfl)
  refine ⟨p, ?_, h2, h3, ?_⟩
  · simp only [text_pairs.f]
    exact h1
  · rw [← h4, pend, if_pos rfl, List.nil_append, List.drop_zero]
    cases prs l <;> simp
def okAll : Option (List Int) → List Int × Int
  | some l => if ∀ r ∈ l, ok r then (l, 0) else ([], 6)
  | none => ([], 6)
theorem runes_loop (l : List Int) (is : Bool) (hl : l.length ≤ 4294967296) (hw : ∀ x ∈ l, 0 ≤ x) : ∀ (n i : Nat), i + n = l.length →
    Ev (fun k => text_Runes.l0 k (l.take i) is l (l.length : Int) (i : Int)) (if (∀ r ∈ l.drop i, ok r) ∧ is = true then (l, 0) else ([], 6))
  | 0, i, h => by
    refine Ev.succ ?_
    simp only [text_Runes.l0]
    refine Ev.neg (by omega) ?_
    rw [List.drop_eq_nil_of_le (by omega), List.take_of_length_le (by omega)]
    cases is
    · refine Ev.neg (by decide) ((Ev.val _).eq (by simp))
    · refine Ev.pos rfl ((Ev.val _).eq (by simp))
  | n + 1, i, h => by
    refine Ev.succ ?_
    simp only [text_Runes.l0]
    refine Ev.pos (by omega) (Ev.pos (by omega) (Ev.pos (by omega) ?_))
    have h0 := hw _ (rd_mem l i (by omega))
    have hd := drop_nat l i (by omega)
    by_cases hg : rd l (i : Int) > 1114111
    · refine Ev.pos hg ((Ev.val _).eq ?_)
      rw [if_neg]
      rintro ⟨hq, _⟩
      have := hq _ (by rw [hd]; exact List.mem_cons_self)
      unfold ok at this
      omega
    · refine Ev.neg hg ?_
      have ew : wrap32 (rd l (i : Int)) = rd l (i : Int) := by unfold wrap32; omega
      rw [ew]
      refine Ev.bind (Ev.one (valid_eq _)) ?_
      by_cases hk : ok (rd l (i : Int))
      · refine Ev.pos (by simp [hk]) (Ev.pos (by rw [List.length_take]; omega) ?_)
        rw [← take_succ l i (by omega), w64' i (by omega)]
        refine (runes_loop l is hl hw n (i + 1) (by omega)).eq ?_
        have e : (∀ x ∈ l.drop i, ok x) ↔ ∀ x ∈ l.drop (i + 1), ok x := by rw [hd]; simp [hk]
        simp only [e]
      · refine Ev.neg (by simp [hk]) ((Ev.val _).eq ?_)
        rw [if_neg]
        rintro ⟨hq, _⟩
        exact hk (hq _ (by rw [hd]; exact List.mem_cons_self))
theorem runes_j1 (l : List Int) (is : Bool) (hl : l.length ≤ 4294967296) (hw : ∀ x ∈ l, 0 ≤ x) : Ev (fun k => text_Runes.j1 k [] l is) (okAll (if is = true then some l else none)) := by
  refine Ev.succ ?_
  simp only [text_Runes.j1]
  refine (runes_loop l is hl hw l.length 0 (by omega)).eq ?_
  cases is <;> simp [okAll]
theorem us2_length (big : Bool) : ∀ b : List Int, (us2 big b).length ≤ b.length
  | [] => by simp [us2]
  | [_] => by simp [us2]
  | a :: b :: t => by have := us2_length big t; simp [us2]; omega
theorem us4_length (big : Bool) : ∀ b : List Int, (us4 big b).length ≤ b.length
  | [] => by simp [us4]
  | [_] => by simp [us4]
  | [_, _] => by simp [us4]
  | [_, _, _] => by simp [us4]
  | a :: b :: c :: d :: t => by have := us4_length big t; simp [us4]; omega
theorem us2_mem (big : Bool) : ∀ b : List Int, Bts b → ∀ x ∈ us2 big b, 0 ≤ x ∧ x < 65536
  | [], _, x, h => by simp [us2] at h
  | [_], _, x, h => by simp [us2] at h
  | a :: b :: t, hb, x, h => by
    have h0 := hb a (by simp)
    have h1 := hb b (by simp)
    rw [us2] at h
    rcases List.mem_cons.mp h with rfl | h
    · split <;> omega
    · exact us2_mem big t (fun x hx => hb x (by simp [hx])) x h
theorem us4_mem (big : Bool) : ∀ b : List Int, Bts b → ∀ x ∈ us4 big b, 0 ≤ x
  | [], _, x, h => by simp [us4] at h
  | [_], _, x, h => by simp [us4] at h
  | [_, _], _, x, h => by simp [us4] at h
  | [_, _, _], _, x, h => by simp [us4] at h
  | a :: b :: c :: d :: t, hb, x, h => by
    have h0 := hb a (by simp)
    have h1 := hb b (by simp)
    have h2 := hb c (by simp)
    have h3 := hb d (by simp)
    rw [us4] at h
    rcases List.mem_cons.mp h with rfl | h
    · split <;> omega
    · exact us4_mem big t (fun x hx => hb x (by simp [hx])) x h
theorem plainL_length : ∀ (n : Nat) (b l : List Int), Bts b → plainL n b = some l → l.length ≤ b.length
  | _, [], l, hb, h => by
    rename_i n
    cases n <;> (simp [plainL] at h; subst h; simp)
  | 0, _ :: _, l, hb, h => by simp [plainL] at h
  | n + 1, a :: t, l, hb, h => by
    have hun : plainL (n + 1) (a :: t) = (dec1 (a :: t)).bind fun p => (plainL n ((a :: t).drop p.2)).map (p.1 :: ·) := rfl
    rw [hun] at h
    cases hd : dec1 (a :: t) with
    | none => rw [hd] at h; cases h
    | some p =>
      obtain ⟨h1, h2⟩ := dec1_le (r := p.1) (w := p.2) hb (by simp) hd
      rw [hd] at h
      simp only [Option.bind_some] at h
      cases he : plainL n ((a :: t).drop p.2) with
      | none => rw [he] at h; cases h
      | some m =>
        rw [he] at h
        simp only [Option.map_some, Option.some.injEq] at h
        subst h
        have := plainL_length n _ m (bts_drop hb _) he
        rw [List.length_drop] at this
        simp at this h2 ⊢
        omega
theorem prs_length : ∀ (l q : List Int), prs l = some q → q.length ≤ l.length
  | [], q, h => by simp [prs] at h; subst h; simp
  | [n], q, h => by
    simp only [prs] at h
    split at h
    · cases h
    · simp at h; subst h; simp
  | n :: m :: u, q, h => by
    simp only [prs] at h
    split at h
    · cases h
    · split at h
      · split at h
        · cases he : prs u with
          | none => rw [he] at h; cases h
          | some z =>
            rw [he] at h
            simp at h
            subst h
            have := prs_length u z he
            simp; omega
        · cases h
      · cases he : prs (m :: u) with
        | none => rw [he] at h; cases h
        | some z =>
          rw [he] at h
          simp at h
          subst h
          have := prs_length (m :: u) z he
          simp at this ⊢; omega
def runesOf (code : Int) (b : List Int) : Option (List Int) :=
  if sizeOf code = 1 then plainL b.length b
  else if sizeOf code = 2 then (if (b.length : Int) % 2 = 0 then prs (us2 (bigOf code) b) else none)
  else (if (b.length : Int) % 4 = 0 then some (us4 (bigOf code) b) else none)
theorem runesOf_length (code : Int) (b l : List Int) (hb : Bts b) (h : runesOf code b = some l) : l.length ≤ b.length := by
  unfold runesOf at h
  split at h
  · exact plainL_length _ _ _ hb h
  · split at h
    · split at h
      · have := prs_length _ _ h
        have := us2_length (bigOf code) b
        omega
      · cases h
    · split at h
      · simp at h; subst h; exact us4_length _ _
      · cases h
def runes (b : List Int) : List Int × Int := okAll (runesOf (detect b).1 (b.drop (detect b).2.toNat))
theorem pre_le : ∀ (row b : List Int), pre row b = true → row.length ≤ b.length
  | [], b, _ => by simp
  | _ :: _, [], h => by simp [pre] at h
  | x :: r, y :: b, h => by
    simp [pre] at h
    have := pre_le r b h.2
    simp; omega
theorem detect_le (b : List Int) : 0 ≤ (detect b).2 ∧ (detect b).2 ≤ (b.length : Int) := by
  unfold detect detect1 detect2 detect3
  repeat' split
  all_goals (try (rename_i h; have := pre_le _ _ h; simp at this))
  all_goals (simp; try omega)
theorem runes_eq (b : List Int) (hb : Bts b) (hl : b.length ≤ 4294967296) : Ev (fun k => text_Runes.f k b) (runes b) := by
  obtain ⟨h0, h1⟩ := detect_le b
  simp only [text_Runes.f]
  refine Ev.bind (detect_eq b) ?_
  refine Ev.bind (Ev.one (wide_eq _)) (Ev.pos h0 (Ev.pos h1 ?_))
  unfold runes runesOf
  have hlen : (b.drop (detect b).2.toNat).length ≤ 4294967296 := by rw [List.length_drop]; omega
  have hbd : Bts (b.drop (detect b).2.toNat) := bts_drop hb _
  generalize (detect b).1 = code
  generalize b.drop (detect b).2.toNat = c at hlen hbd
  rcases sizes code with hs | hs | hs
  · refine Ev.pos hs ?_
    rw [if_pos hs]
    refine Ev.bind (plain_eq c hbd hlen) ?_
    cases hp : plainL c.length c with
    | none => exact Ev.neg (by simp [res]) (Ev.val _)
    | some l =>
      refine Ev.pos (by simp [res]) ((Ev.val _).eq ?_)
      simp only [okAll, res, List.nil_append]
      rw [if_pos (plainL_ok _ _ _ hbd hp)]
  · refine Ev.neg (by omega) ?_
    rw [if_neg (by omega), if_pos hs]
    refine Ev.bind (units_eq (sizeOf code) (bigOf code) c (.inl hs) hlen hbd) ?_
    rw [hs]
    by_cases hm : (c.length : Int) % 2 = 0
    · rw [if_pos hm, if_pos hm]
      refine Ev.pos rfl ?_
      have e2 : us 2 (bigOf code) c = us2 (bigOf code) c := by simp [us]
      show Ev (fun k => text_Runes.j0 k [] (us 2 (bigOf code) c) true (2 == 2)) _
      rw [e2]
      have hu := us2_length (bigOf code) c
      obtain ⟨p, q1, q2, q3, q4⟩ := pairs_eq (us2 (bigOf code) c) (by omega) (us2_mem _ _ hbd)
      refine Ev.succ ?_
      simp only [text_Runes.j0]
      refine Ev.pos (by decide) (Ev.bind q1 ?_)
      rw [q4]
      exact runes_j1 p.1 p.2 (by omega) q3
    · rw [if_neg hm, if_neg hm]
      refine Ev.neg (by simp) ?_
      refine Ev.succ ?_
      simp only [text_Runes.j0]
      refine Ev.neg (by decide) ?_
      exact runes_j1 [] false (by simp) (by simp)
  · refine Ev.neg (by omega) ?_
    rw [if_neg (by omega), if_neg (by omega)]
    refine Ev.bind (units_eq (sizeOf code) (bigOf code) c (.inr hs) hlen hbd) ?_
    rw [hs]
    by_cases hm : (c.length : Int) % 4 = 0
    · rw [if_pos hm, if_pos hm]
      refine Ev.pos rfl ?_
      have e4 : us 4 (bigOf code) c = us4 (bigOf code) c := by simp [us]
      show Ev (fun k => text_Runes.j0 k [] (us 4 (bigOf code) c) true (4 == 2)) _
      rw [e4]
      have hu := us4_length (bigOf code) c
      refine Ev.succ ?_
      simp only [text_Runes.j0]
      refine Ev.neg (by decide) ?_
      exact runes_j1 (us4 (bigOf code) c) true (by omega) (us4_mem _ _ hbd)
    · rw [if_neg hm, if_neg hm]
      refine Ev.neg (by simp) ?_
      refine Ev.succ ?_
      simp only [text_Runes.j0]
      refine Ev.neg (by decide) ?_
      exact runes_j1 [] false (by simp) (by simp)
theorem runes_length (b : List Int) (hb : Bts b) : (runes b).1.length ≤ b.length := by
  unfold runes
  cases h : runesOf (detect b).1 (b.drop (detect b).2.toNat) with
  | none => simp [okAll]
  | some l =>
    have h1 := runesOf_length _ _ _ (bts_drop hb _) h
    rw [List.length_drop] at h1
    simp only [okAll]
    split
    · show l.length ≤ b.length; omega
    · simp
theorem runes_ok (b : List Int) : ∀ r ∈ (runes b).1, ok r := by
  unfold runes
  cases h : runesOf (detect b).1 (b.drop (detect b).2.toNat) with
  | none => simp [okAll]
  | some l =>
    simp only [okAll]
    split
    · assumption
    · simp
theorem ok_i32 {l : List Int} (h : ∀ r ∈ l, ok r) : I32 l := by
  intro x hx
  have := h x hx
  unfold ok at this
  omega
def decoded (b : List Int) : ByteArray × Int := if (runes b).2 = 0 then cleaned (runes b).1 else ((⟨#[]⟩ : ByteArray), (runes b).2)
theorem decoded_eq (b : List Int) (hb : Bts b) (hl : b.length ≤ 4294967296) : Ev (fun k => text_Decode.f k b) (decoded b) := by
  simp only [text_Decode.f]
  refine Ev.bind (runes_eq b hb hl) ?_
  unfold decoded
  refine Ev.ite (fun h => ?_) (fun _ => Ev.val _)
  refine Ev.bind (Ev.one (clean_eq _ (by have := runes_length b hb; omega) (ok_i32 (runes_ok b)))) ?_
  exact Ev.val _
end Go.Proofs.YtdbkefgdeenjoaaDoor.Plain
end
