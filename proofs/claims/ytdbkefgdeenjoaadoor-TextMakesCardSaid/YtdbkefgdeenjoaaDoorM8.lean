/- Words and walks that the row of TextMakes needs: printed by programs, and plain laws. -/
import Derived.Test.YtdbkefgdeenjoaaDoorM2
import Derived.Test.YtdbkefgdeenjoaaDoorM1
import Derived.Test.YtdbkefgdeenjoaaDoorM5
import Derived.Test.YtdbkefgdeenjoaaDoorM7
import Derived.Test.YtdbkefgdeenjoaaDoorM3
import Derived.Test.YtdbkefgdeenjoaaDoorM6
import Derived.Test.YtdbkefgdeenjoaaDoorM0
import Derived.Test.YtdbkefgdeenjoaaDoorRows
import Derived.Lib.LaidU8T
import Derived.PinnedBridge
import Derived.SizedLaws
import Derived.ChangeSlices
section
namespace Go.Proofs.YtdbkefgdeenjoaaDoor.Plain
set_option linter.unusedVariables false
set_option linter.unusedSimpArgs false
open Go.RowKit Go.Proofs.YtdbkefgdeenjoaaDoor.X Go.Proofs.YtdbkefgdeenjoaaDoorW.PrintWords Go.Proofs.YtdbkefgdeenjoaaDoorW.PrintLast Go.Proofs.YtdbkefgdeenjoaaDoorW.PrintMore
def u2 (r : Int) (big : Bool) : List Int := if big then [r / 256 % 256, r % 256] else [r % 256, r / 256 % 256]
def u4 (r : Int) (big : Bool) : List Int := if big then [r / 16777216 % 256, r / 65536 % 256, r / 256 % 256, r % 256] else [r % 256, r / 256 % 256, r / 65536 % 256, r / 16777216 % 256]
def enc1 (size : Int) (big : Bool) (r : Int) : List Int :=
  if size = 1 then Lib.encodeRuneZ r else if size = 2 then (if 65536 ≤ r then u2 (55296 + (r - 65536) / 1024) big ++ u2 (56320 + (r - 65536) % 1024) big else u2 r big) else u4 r big
theorem w64 (n : Int) (h0 : -9223372036854775808 ≤ n) (h1 : n ≤ 9223372036854775807) : wrap64 n = n := by unfold wrap64; omega
theorem unit2 (lb : List Int) (r : Int) (big : Bool) (h : lb.length + 8 ≤ 140737488355328) : text_unit.f 5 lb r 2 big = some (lb ++ u2 r big) := by
  have h1 : lb.length < 140737488355328 := by omega
  have h2 : lb.length + 1 < 140737488355328 := by omega
  cases big <;> simp [text_unit.f, text_unit.l0, shr, wrap64, u2, h1, h2, IntKind.bits]
theorem unit4 (lb : List Int) (r : Int) (big : Bool) (h : lb.length + 8 ≤ 140737488355328) : text_unit.f 5 lb r 4 big = some (lb ++ u4 r big) := by
  have h1 : lb.length < 140737488355328 := by omega
  have h2 : lb.length + 1 < 140737488355328 := by omega
  have h3 : lb.length + 2 < 140737488355328 := by omega
  have h4 : lb.length + 3 < 140737488355328 := by omega
  cases big <;> simp [text_unit.f, text_unit.l0, shr, wrap64, u4, h1, h2, h3, h4, IntKind.bits]
theorem and1023 (x : Int) (h0 : 0 ≤ x) (h1 : x < 2147483648) : Go.bits .and .i32 x 1023 = x % 1024 := by
  obtain ⟨n, rfl⟩ : ∃ n : Nat, x = (n : Int) := ⟨x.toNat, by omega⟩
  have hn : n < 2147483648 := by omega
  have e : n &&& 1023 = n % 1024 := Nat.and_two_pow_sub_one_eq_mod n 10
  unfold Go.bits
  have hx : (BitVec.ofInt IntKind.i32.bits (n : Int) &&& BitVec.ofInt IntKind.i32.bits 1023).toNat = n &&& 1023 := by
    have h2 : n % 4294967296 = n := Nat.mod_eq_of_lt (by omega)
    show (BitVec.ofInt 32 (n : Int) &&& BitVec.ofInt 32 1023).toNat = n &&& 1023
    rw [BitVec.toNat_and]
    have h3 : (BitVec.ofInt 32 (n : Int)).toNat = n := by simp [BitVec.toNat_ofInt]; omega
    have h4 : (BitVec.ofInt 32 1023).toNat = 1023 := by decide
    rw [h3, h4]
  simp only [hx, e]
  rw [i32_w]
  unfold wrap32
  omega
theorem put_eq (lb : List Int) (r size : Int) (big : Bool) (hs : size = 1 ∨ size = 2 ∨ size = 4) (h0 : 0 ≤ r) (h1 : r ≤ 1114111) (h : lb.length + 16 ≤ 140737488355328) : text_Encode.put lb r size big = some (lb ++ enc1 size big r) := by
  unfold text_Encode.put enc1
  rcases hs with rfl | rfl | rfl
  · rw [if_pos rfl, if_pos rfl, if_pos (by omega)]
  · have a1 : ¬ (2 : Int) = 1 := by decide
    rw [if_neg a1, if_pos (rfl : (2 : Int) = 2), if_neg a1, if_pos (rfl : (2 : Int) = 2)]
    by_cases hr : 65536 ≤ r
    · have e1 : wrap32 (r - 65536) = r - 65536 := by unfold wrap32; omega
      have e2 : wrap32 (55296 + (r - 65536) / 1024) = 55296 + (r - 65536) / 1024 := by unfold wrap32; omega
      have e3 : wrap32 (56320 + (r - 65536) % 1024) = 56320 + (r - 65536) % 1024 := by unfold wrap32; omega
      rw [if_pos hr, if_pos hr, e1, e2, unit2 _ _ _ (by omega), and1023 _ (by omega) (by omega), e3]
      show text_unit.f 5 (lb ++ u2 _ big) _ 2 big = _
      rw [unit2 _ _ _ (by simp [u2]; split <;> simp <;> omega), List.append_assoc]
    · rw [if_neg hr, if_neg hr, unit2 _ _ _ (by omega)]
  · have a1 : ¬ (4 : Int) = 1 := by decide
    have a2 : ¬ (4 : Int) = 2 := by decide
    rw [if_neg a1, if_neg a2, if_neg a1, if_neg a2, unit4 _ _ _ (by omega)]
theorem enc1_length (size : Int) (big : Bool) (r : Int) : (enc1 size big r).length ≤ 4 := by
  unfold enc1 u2 u4
  have := (Lib.encodeRuneZ_length r).2
  repeat' split
  all_goals simp <;> omega
def ok (r : Int) : Prop := 0 ≤ r ∧ r ≤ 1114111 ∧ ¬ (55296 ≤ r ∧ r ≤ 57343)
instance (r : Int) : Decidable (ok r) := by unfold ok; infer_instance
theorem valid_eq (r : Int) : utf8_ValidRune.f r = some (decide (ok r)) := by
  unfold utf8_ValidRune.f ok
  repeat' split
  all_goals (simp only [Option.some.injEq]; symm; simp; omega)
theorem go_eq (size : Int) (big : Bool) (hs : size = 1 ∨ size = 2 ∨ size = 4) : ∀ (l b : List Int), b.length + 4 * l.length + 16 ≤ 140737488355328 →
    text_Encode.go size big l b = some (if ∀ r ∈ l, ok r then (b ++ l.flatMap (enc1 size big), 0) else ([], 6))
  | [], b, _ => by simp [text_Encode.go]
  | r :: t, b, h => by
    simp only [List.length_cons] at h
    unfold text_Encode.go
    rw [valid_eq]
    simp only [Option.bind_some]
    by_cases hr : ok r
    · rw [if_pos (by simp [hr]), put_eq b r size big hs hr.1 hr.2.1 (by omega)]
      simp only [Option.bind_some]
      rw [go_eq size big hs t _ (by have := enc1_length size big r; rw [List.length_append]; omega)]
      by_cases ht : ∀ r ∈ t, ok r
      · rw [if_pos ht, if_pos (by simpa [hr] using ht)]
        simp
      · rw [if_neg ht, if_neg (by simpa [hr] using ht)]
    · rw [if_neg (by simp [hr]), if_neg (by simp [hr])]
def sizeOf (code : Int) : Int := if code = 2 ∨ code = 1 then 2 else if code = 4 ∨ code = 3 then 4 else 1
def bigOf (code : Int) : Bool := decide (code = 2 ∨ code = 4)
theorem wide_eq (code : Int) : text_wide.f code = some (sizeOf code, bigOf code) := by
  unfold text_wide.f sizeOf bigOf
  repeat' split
  all_goals simp_all
def encode (code : Int) (l : List Int) : List Int := (65279 :: l).flatMap (enc1 (sizeOf code) (bigOf code))
theorem sizes (code : Int) : sizeOf code = 1 ∨ sizeOf code = 2 ∨ sizeOf code = 4 := by
  unfold sizeOf
  split
  · simp
  · split <;> simp
theorem encode_eq (l : List Int) (code : Int) (h : l.length ≤ 4294967296) : text_Encode.f l code = some (if code < 0 ∨ 4 < code then ([], 2) else if ∀ r ∈ l, ok r then (encode code l, 0) else ([], 6)) := by
  unfold text_Encode.f
  by_cases h0 : code < 0
  · rw [if_pos h0, if_pos (.inl h0)]
  rw [if_neg h0]
  by_cases h4 : 4 < code
  · rw [if_pos h4, if_pos (.inr h4)]
  rw [if_neg h4, if_pos h, if_neg (by omega), wide_eq]
  simp only [Option.bind_some]
  rw [put_eq _ _ _ _ (sizes code) (by decide) (by decide) (by simp)]
  simp only [Option.bind_some, List.nil_append]
  rw [go_eq _ _ (sizes code) _ _ (by have := enc1_length (sizeOf code) (bigOf code) 65279; omega)]
  simp [encode]
end Go.Proofs.YtdbkefgdeenjoaaDoor.Plain
end
section
namespace Go.Proofs.YtdbkefgdeenjoaaDoor.Plain
set_option linter.unusedVariables false
set_option linter.unusedSimpArgs false
open Go.RowKit Go.Proofs.YtdbkefgdeenjoaaDoor.X Go.Proofs.YtdbkefgdeenjoaaDoorW.PrintWords Go.Proofs.YtdbkefgdeenjoaaDoorW.PrintLast Go.Proofs.YtdbkefgdeenjoaaDoorW.PrintMore
def pre : List Int → List Int → Bool
  | [], _ => true
  | _ :: _, [] => false
  | x :: r, y :: b => y == x && pre r b
theorem w64' (n : Nat) (h : n < 4611686018427387904) : wrap64 ((n : Int) + 1) = ((n + 1 : Nat) : Int) := by unfold wrap64; omega
theorem rd_nat (l : List Int) (i : Nat) (h : i < l.length) : rd l (i : Int) = l[i] := by
  unfold rd
  rw [List.getD_eq_getElem?_getD, show ((i : Int)).toNat = i from by omega, List.getElem?_eq_getElem h]
  rfl
theorem drop_nat (l : List Int) (i : Nat) (h : i < l.length) : l.drop i = rd l (i : Int) :: l.drop (i + 1) := by
  rw [rd_nat l i h]; exact List.drop_eq_getElem_cons h
end Go.Proofs.YtdbkefgdeenjoaaDoor.Plain
end
section
namespace Go.Proofs.YtdbkefgdeenjoaaDoor.Plain
set_option linter.unusedVariables false
set_option linter.unusedSimpArgs false
open Go.RowKit Go.Proofs.YtdbkefgdeenjoaaDoor.X Go.Proofs.YtdbkefgdeenjoaaDoorW.PrintWords Go.Proofs.YtdbkefgdeenjoaaDoorW.PrintLast Go.Proofs.YtdbkefgdeenjoaaDoorW.PrintMore
def body (code : Int) (l : List Int) : List Int := l.flatMap (enc1 (sizeOf code) (bigOf code))
end Go.Proofs.YtdbkefgdeenjoaaDoor.Plain
end
section
namespace Go.Proofs.YtdbkefgdeenjoaaDoor.Plain
set_option linter.unusedVariables false
set_option linter.unusedSimpArgs false
open Go.RowKit Go.Proofs.YtdbkefgdeenjoaaDoor.X Go.Proofs.YtdbkefgdeenjoaaDoorW.PrintWords Go.Proofs.YtdbkefgdeenjoaaDoorW.PrintLast Go.Proofs.YtdbkefgdeenjoaaDoorW.PrintMore
def I32 (l : List Int) : Prop := ∀ x ∈ l, -2147483648 ≤ x ∧ x ≤ 2147483647
theorem rd_mem (l : List Int) (i : Nat) (h : i < l.length) : rd l (i : Int) ∈ l := by rw [rd_nat l i h]; exact List.getElem_mem h
theorem take_succ (l : List Int) (i : Nat) (h : i < l.length) : l.take (i + 1) = l.take i ++ [rd l (i : Int)] := by
  rw [rd_nat l i h]; exact (List.take_append_getElem h).symm
theorem ours_loop (l : List Int) (hl : l.length ≤ 4294967296) (hw : I32 l) : ∀ (n i : Nat), i + n = l.length → Ev (fun k => grillelaw01_ours.l0 k (l.take i) l (l.length : Int) (i : Int)) l
  | 0, i, h => by
    refine Ev.succ ?_
    simp only [grillelaw01_ours.l0]
    refine Ev.neg (by omega) ((Ev.val _).eq ?_)
    exact List.take_of_length_le (by omega)
  | n + 1, i, h => by
    refine Ev.succ ?_
    simp only [grillelaw01_ours.l0]
    refine Ev.pos (by omega) (Ev.pos (by omega) (Ev.pos (by omega) (Ev.pos (by rw [List.length_take]; omega) ?_)))
    have hx := hw _ (rd_mem l i (by omega))
    rw [w64 (rd l (i : Int)) (by omega) (by omega), ← take_succ l i (by omega), w64' i (by omega)]
    exact ours_loop l hl hw n (i + 1) (by omega)
theorem ours_eq (l : List Int) (hl : l.length ≤ 4294967296) (hw : I32 l) : Ev (fun k => grillelaw01_ours.f k l) l := by
  simp only [grillelaw01_ours.f]
  exact ours_loop l hl hw l.length 0 (by omega)
theorem eqb_loop (a : List Int) (hl : a.length ≤ 4294967296) : ∀ (n i : Nat), i + n = a.length → Ev (fun k => slices_Equal_byte_byte.l0 k a a (a.length : Int) (i : Int)) true
  | 0, i, h => by
    refine Ev.succ ?_
    simp only [slices_Equal_byte_byte.l0]
    exact Ev.neg (by omega) (Ev.val _)
  | n + 1, i, h => by
    refine Ev.succ ?_
    simp only [slices_Equal_byte_byte.l0]
    refine Ev.pos (by omega) (Ev.pos (by omega) (Ev.pos (by omega) (Ev.pos (by omega) (Ev.pos (by simp) ?_))))
    rw [w64' i (by omega)]
    exact eqb_loop a hl n (i + 1) (by omega)
theorem eqb_eq (a : List Int) (hl : a.length ≤ 4294967296) : Ev (fun k => slices_Equal_byte_byte.f k a a) true := by
  simp only [slices_Equal_byte_byte.f]
  exact Ev.pos (by simp) (eqb_loop a hl a.length 0 (by omega))
theorem char_eq (r : Int) : grilleref01_Character.f r = some (decide (ok r)) := by
  unfold grilleref01_Character.f
  repeat' split
  all_goals (refine congrArg some (Bool.eq_iff_iff.mpr ?_); simp only [decide_eq_true_eq, bne_iff_ne, ne_eq, eq_self, Bool.false_eq_true, true_iff, false_iff, not_true_eq_false] at *; (try simp only [ok] at *); omega)
theorem bytes_eq (r : Int) (h : ok r) : grilleref01_Bytes.f r = some (Lib.encodeRuneZ r) := by
  obtain ⟨h0, h1, h2⟩ := h
  unfold grilleref01_Bytes.f
  have d (c : Int) (hc : 0 < c) : Int.tdiv r c = r / c := Int.tdiv_eq_ediv_of_nonneg h0
  have m (x c : Int) (hx : 0 ≤ x) : Int.tmod x c = x % c := Int.tmod_eq_emod_of_nonneg hx
  rw [d 64 (by decide), d 4096 (by decide), d 262144 (by decide)]
  rw [w64 (r / 64) (by omega) (by omega), w64 (r / 4096) (by omega) (by omega), w64 (r / 262144) (by omega) (by omega), m r 64 h0, m (r / 64) 64 (by omega), m (r / 4096) 64 (by omega)]
  rw [w64 (192 + r / 64) (by omega) (by omega), w64 (224 + r / 4096) (by omega) (by omega), w64 (240 + r / 262144) (by omega) (by omega), w64 (128 + r % 64) (by omega) (by omega), w64 (128 + r / 64 % 64) (by omega) (by omega), w64 (128 + r / 4096 % 64) (by omega) (by omega)]
  by_cases a : r < 128
  · rw [if_pos a, Lib.encodeRuneZ_one h0 (by omega), show r % 256 = r by omega]
  rw [if_neg a]
  by_cases b : r < 2048
  · rw [if_pos b, Lib.encodeRuneZ_two (by omega) (by omega), show (192 + r / 64) % 256 = 192 + r / 64 by omega, show (128 + r % 64) % 256 = 128 + r % 64 by omega]
  rw [if_neg b]
  by_cases c : r < 65536
  · rw [if_pos c, Lib.encodeRuneZ_three (by omega), show (224 + r / 4096) % 256 = 224 + r / 4096 by omega, show (128 + r / 64 % 64) % 256 = 128 + r / 64 % 64 by omega, show (128 + r % 64) % 256 = 128 + r % 64 by omega]
  · rw [if_neg c, Lib.encodeRuneZ_four (by omega) h1, show (240 + r / 262144) % 256 = 240 + r / 262144 by omega, show (128 + r / 4096 % 64) % 256 = 128 + r / 4096 % 64 by omega, show (128 + r / 64 % 64) % 256 = 128 + r / 64 % 64 by omega, show (128 + r % 64) % 256 = 128 + r % 64 by omega]
def may (r : Int) : Bool := decide (r = 9 ∨ r = 10 ∨ r = 13 ∨ r = 133 ∨ (32 ≤ r ∧ r < 127) ∨ (160 ≤ r ∧ ok r ∧ r ≠ 65279 ∧ r ≠ 65534 ∧ r ≠ 65535))
theorem may_eq (r : Int) : text_May.f r = some (may r) := by
  unfold text_May.f may
  rw [valid_eq]
  simp only [Option.bind_some]
  repeat' split
  all_goals (refine congrArg some (Bool.eq_iff_iff.mpr ?_); simp only [decide_eq_true_eq, bne_iff_ne, ne_eq, eq_self, Bool.false_eq_true, true_iff, false_iff, not_true_eq_false] at *; (try simp only [ok] at *); omega)
theorem rmay_eq (r : Int) : grilleref01_May.f r = some (may r) := by
  unfold grilleref01_May.f may
  rw [char_eq]
  simp only [Option.bind_some]
  repeat' split
  all_goals (refine congrArg some (Bool.eq_iff_iff.mpr ?_); simp only [decide_eq_true_eq, bne_iff_ne, ne_eq, eq_self, Bool.false_eq_true, true_iff, false_iff, not_true_eq_false] at *; (try simp only [ok] at *); omega)
end Go.Proofs.YtdbkefgdeenjoaaDoor.Plain
end
section
namespace Go.Proofs.YtdbkefgdeenjoaaDoor.Plain
set_option linter.unusedVariables false
set_option linter.unusedSimpArgs false
open Go.RowKit Go.Proofs.YtdbkefgdeenjoaaDoor.X Go.Proofs.YtdbkefgdeenjoaaDoorW.PrintWords Go.Proofs.YtdbkefgdeenjoaaDoorW.PrintLast Go.Proofs.YtdbkefgdeenjoaaDoorW.PrintMore
def cl : List Int → List Int
  | [] => []
  | r :: t => if r = 13 then (if t.head? = some 10 then cl t else 10 :: cl t) else Lib.encodeRuneZ r ++ cl t
def str (l : List Int) : ByteArray := ⟨(l.map fun x => UInt8.ofNat x.toNat).toArray⟩
def cleaned (l : List Int) : ByteArray × Int := if ∀ r ∈ l, may r = true then (str (cl l), 0) else ((⟨#[]⟩ : ByteArray), 7)
theorem may_ok {r : Int} (h : may r = true) : ok r := by
  unfold may at h
  simp only [decide_eq_true_eq] at h
  unfold ok at *
  omega
theorem clean_go : ∀ (l : List Int) (out : List UInt8), I32 l → text_Clean.go l out = some (if ∀ r ∈ l, may r = true then ((⟨(out ++ (cl l).map fun x => UInt8.ofNat x.toNat).toArray⟩ : ByteArray), 0) else ((⟨#[]⟩ : ByteArray), 7))
  | [], out, _ => by simp [text_Clean.go, cl]
  | r :: t, out, hw => by
    have ht : I32 t := fun x hx => hw x (List.mem_cons_of_mem _ hx)
    have hr := hw r (List.mem_cons_self)
    unfold text_Clean.go
    rw [may_eq]
    simp only [Option.bind_some]
    by_cases hm : may r = true
    · rw [if_pos hm]
      have e : (∀ x ∈ r :: t, may x = true) ↔ ∀ x ∈ t, may x = true := by simp [hm]
      simp only [e]
      by_cases h13 : r = 13
      · rw [if_pos h13]
        by_cases h10 : t.head? = some 10
        · rw [if_pos h10, clean_go t out ht]
          simp [cl, h13, h10]
        · rw [if_neg h10, clean_go t _ ht]
          simp [cl, h13, h10]
      · rw [if_neg h13, if_pos hr, clean_go t _ ht]
        simp [cl, h13, Lib.encodeRune]
    · rw [if_neg hm]
      rw [if_neg (fun h => hm (h r List.mem_cons_self))]
theorem clean_eq (l : List Int) (hl : l.length ≤ 4294967296) (hw : I32 l) : text_Clean.f l = some (cleaned l) := by
  unfold text_Clean.f cleaned str
  rw [if_pos hl, clean_go l [] hw]
  simp
set_option maxHeartbeats 4000000 in
theorem rclean_loop (l : List Int) (hl : l.length ≤ 2000) (hw : I32 l) : ∀ (n i : Nat) (acc : List Int), l.length ≤ i + n → acc.length ≤ 4 * i → i ≤ l.length →
    Ev (fun k => grilleref01_Clean.l0 k l acc (i : Int)) (if ∀ r ∈ l.drop i, may r = true then (str (acc ++ cl (l.drop i)), 0) else ((⟨#[]⟩ : ByteArray), 7)) := by
  intro n
  induction n with
  | zero =>
    intro i acc h ha hi
    refine Ev.succ ?_
    simp only [grilleref01_Clean.l0]
    refine Ev.neg (by omega) ((Ev.val _).eq ?_)
    rw [List.drop_eq_nil_of_le (by omega)]
    simp [cl, str, strOfNums]
  | succ n ih =>
    intro i acc h ha hi
    refine Ev.succ ?_
    simp only [grilleref01_Clean.l0]
    by_cases hlt : i < l.length
    case neg =>
      refine Ev.neg (by omega) ((Ev.val _).eq ?_)
      rw [List.drop_eq_nil_of_le (by omega)]
      simp [cl, str, strOfNums]
    refine Ev.pos (by omega) (Ev.pos (by omega) ?_)
    refine Ev.bind (Ev.one (rmay_eq _)) ?_
    rw [drop_nat l i hlt]
    by_cases hm : may (rd l (i : Int)) = true
    case neg =>
      refine Ev.neg hm ((Ev.val _).eq ?_)
      rw [if_neg (fun h => hm (h _ List.mem_cons_self))]
    refine Ev.pos hm ?_
    have e : (∀ x ∈ rd l (i : Int) :: l.drop (i + 1), may x = true) ↔ ∀ x ∈ l.drop (i + 1), may x = true := by simp [hm]
    simp only [e]
    by_cases h13 : rd l (i : Int) = 13
    · refine Ev.pos h13 (Ev.pos (by omega) (Ev.bind (Ev.val _) ?_))
      rw [w64' i (by omega)]
      by_cases hn : i + 1 < l.length
      · refine Ev.pos (by omega) (Ev.pos (by omega) ?_)
        have hh : (l.drop (i + 1)).head? = some (rd l ((i + 1 : Nat) : Int)) := by rw [drop_nat l (i + 1) hn]; rfl
        by_cases h10 : rd l ((i + 1 : Nat) : Int) = 10
        · refine Ev.pos h10 ?_
          rw [w64' (i + 1) (by omega)]
          refine (ih (i + 2) (acc ++ [10]) (by omega) (by rw [List.length_append]; simp; omega) (by omega)).eq ?_
          have e2 : (∀ x ∈ l.drop (i + 1), may x = true) ↔ ∀ x ∈ l.drop (i + 2), may x = true := by
            rw [drop_nat l (i + 1) hn, h10]
            have : may 10 = true := by decide
            simp [this]
          have e3 : cl (rd l (i : Int) :: l.drop (i + 1)) = 10 :: cl (l.drop (i + 2)) := by
            rw [cl, if_pos h13, if_pos (by rw [hh, h10]), drop_nat l (i + 1) hn, h10, cl, if_neg (by decide)]
            rfl
          simp only [e2, e3, List.append_assoc, List.cons_append, List.nil_append]
        · refine Ev.neg h10 ?_
          refine (ih (i + 1) (acc ++ [10]) (by omega) (by rw [List.length_append]; simp; omega) (by omega)).eq ?_
          have e3 : cl (rd l (i : Int) :: l.drop (i + 1)) = 10 :: cl (l.drop (i + 1)) := by
            rw [cl, if_pos h13, if_neg (by rw [hh]; simpa using h10)]
          simp only [e3, List.append_assoc, List.cons_append, List.nil_append]
      · refine Ev.neg (by omega) ?_
        refine (ih (i + 1) (acc ++ [10]) (by omega) (by rw [List.length_append]; simp; omega) (by omega)).eq ?_
        have hd : l.drop (i + 1) = [] := List.drop_eq_nil_of_le (by omega)
        simp [hd, cl, h13]
    · refine Ev.neg h13 ?_
      refine Ev.bind (Ev.one (bytes_eq _ (may_ok hm))) ?_
      have h4 := (Lib.encodeRuneZ_length (rd l (i : Int))).2
      refine Ev.pos (by omega) ?_
      rw [w64' i (by omega)]
      refine (ih (i + 1) (acc ++ Lib.encodeRuneZ (rd l (i : Int))) (by omega) (by rw [List.length_append]; omega) (by omega)).eq ?_
      have e3 : cl (rd l (i : Int) :: l.drop (i + 1)) = Lib.encodeRuneZ (rd l (i : Int)) ++ cl (l.drop (i + 1)) := by rw [cl, if_neg h13]
      simp only [e3, List.append_assoc]
theorem rclean_eq (l : List Int) (hl : l.length ≤ 2000) (hw : I32 l) : Ev (fun k => grilleref01_Clean.f k l) (cleaned l) := by
  simp only [grilleref01_Clean.f]
  exact (rclean_loop l hl hw l.length 0 [] (by omega) (by simp) (by omega)).eq (by simp [cleaned])
end Go.Proofs.YtdbkefgdeenjoaaDoor.Plain
end
section
namespace Go.Proofs.YtdbkefgdeenjoaaDoor.Plain
set_option linter.unusedVariables false
set_option linter.unusedSimpArgs false
open Go.RowKit Go.Proofs.YtdbkefgdeenjoaaDoor.X Go.Proofs.YtdbkefgdeenjoaaDoorW.PrintWords Go.Proofs.YtdbkefgdeenjoaaDoorW.PrintLast Go.Proofs.YtdbkefgdeenjoaaDoorW.PrintMore
theorem num_end (r : Int) (n : Nat) (big : Bool) (acc : List Int) : Ev (fun k => grilleref01_number.l0 k r (n : Int) big acc (n : Int)) acc := by
  refine Ev.succ ?_
  simp only [grilleref01_number.l0]
  exact Ev.neg (by omega) (Ev.val _)
theorem num_step (r : Int) (n i : Nat) (big : Bool) (acc v : List Int) (h0 : 0 ≤ r) (h1 : r ≤ 1099511627776) (hi : i < n) (hn : n ≤ 4) (ha : acc.length ≤ 4)
    (h : Ev (fun k => grilleref01_number.l0 k (r / 256) (n : Int) big (if big = true then r % 256 :: acc else acc ++ [r % 256]) ((i + 1 : Nat) : Int)) v) : Ev (fun k => grilleref01_number.l0 k r (n : Int) big acc (i : Int)) v := by
  refine Ev.succ ?_
  simp only [grilleref01_number.l0]
  refine Ev.pos (by omega) ?_
  rw [Int.tdiv_eq_ediv_of_nonneg h0, Int.tmod_eq_emod_of_nonneg h0, w64 (r / 256) (by omega) (by omega), show r % 256 % 256 = r % 256 by omega, w64' i (by omega)]
  cases big
  · refine Ev.neg (by decide) (Ev.pos (by omega) ?_)
    simpa using h
  · refine Ev.pos (by simp) ?_
    simp only [Option.bind_some]
    refine Ev.pos (by simp; omega) ?_
    simpa using h
theorem num2 (r : Int) (big : Bool) (h0 : 0 ≤ r) (h1 : r ≤ 1099511627776) : Ev (fun k => grilleref01_number.f k r 2 big) (u2 r big) := by
  simp only [grilleref01_number.f]
  refine num_step r 2 0 big [] _ h0 h1 (by decide) (by decide) (by simp) ?_
  refine num_step (r / 256) 2 1 big _ _ (by omega) (by omega) (by decide) (by decide) (by cases big <;> simp) ?_
  refine (num_end _ 2 big _).eq ?_
  cases big <;> simp [u2]
theorem num4 (r : Int) (big : Bool) (h0 : 0 ≤ r) (h1 : r ≤ 1099511627776) : Ev (fun k => grilleref01_number.f k r 4 big) (u4 r big) := by
  simp only [grilleref01_number.f]
  refine num_step r 4 0 big [] _ h0 h1 (by decide) (by decide) (by simp) ?_
  refine num_step (r / 256) 4 1 big _ _ (by omega) (by omega) (by decide) (by decide) (by cases big <;> simp) ?_
  refine num_step (r / 256 / 256) 4 2 big _ _ (by omega) (by omega) (by decide) (by decide) (by cases big <;> simp) ?_
  refine num_step (r / 256 / 256 / 256) 4 3 big _ _ (by omega) (by omega) (by decide) (by decide) (by cases big <;> simp) ?_
  refine (num_end _ 4 big _).eq ?_
  have e1 : r / 256 / 256 = r / 65536 := by omega
  have e2 : r / 65536 / 256 = r / 16777216 := by omega
  cases big <;> simp [u4, e1, e2]
theorem unit_eq (r code : Int) (h : ok r) (h0 : 0 ≤ code) (h4 : code ≤ 4) : Ev (fun k => grilleref01_unit.f k r code) (enc1 (sizeOf code) (bigOf code) r) := by
  have hr := h
  obtain ⟨a, b, c⟩ := h
  simp only [grilleref01_unit.f]
  have hc : code = 0 ∨ code = 1 ∨ code = 2 ∨ code = 3 ∨ code = 4 := by omega
  have two (code : Int) (hc : code = 1 ∨ code = 2) (big : Bool) (hb : (code == 2) = big) : Ev (fun k => grilleref01_unit.j0 k r code false) (enc1 2 big r) := by
    refine Ev.succ ?_
    simp only [grilleref01_unit.j0]
    refine Ev.neg (by decide) ?_
    rw [hb]
    unfold enc1
    rw [if_neg (by decide), if_pos rfl]
    by_cases hl : r < 65536
    · rw [if_neg (by omega)]
      exact Ev.pos hl (Ev.bind (num2 r big a (by omega)) (Ev.val _))
    · rw [if_pos (by omega)]
      refine Ev.neg hl ?_
      rw [w64 (r - 65536) (by omega) (by omega), Int.tdiv_eq_ediv_of_nonneg (by omega), Int.tmod_eq_emod_of_nonneg (by omega), w64 ((r - 65536) / 1024) (by omega) (by omega), w64 (55296 + (r - 65536) / 1024) (by omega) (by omega), w64 (56320 + (r - 65536) % 1024) (by omega) (by omega)]
      refine Ev.bind (num2 _ big (by omega) (by omega)) (Ev.bind (num2 _ big (by omega) (by omega)) ?_)
      refine Ev.pos ?_ (Ev.val _)
      cases big <;> simp [u2]
  have four (code : Int) (big : Bool) (hb : (code == 4) = big) : Ev (fun k => grilleref01_unit.j0 k r code true) (enc1 4 big r) := by
    refine Ev.succ ?_
    simp only [grilleref01_unit.j0]
    refine Ev.pos (by simp) ?_
    rw [hb]
    unfold enc1
    rw [if_neg (by decide), if_neg (by decide)]
    exact Ev.bind (num4 r big a (by omega)) (Ev.val _)
  rcases hc with rfl | rfl | rfl | rfl | rfl
  · refine Ev.pos (by simp) ?_
    rw [bytes_eq r hr]
    simp only [Option.bind_some]
    exact Ev.val _
  · exact Ev.neg (by decide) (Ev.neg (by decide) (two 1 (.inl rfl) false rfl))
  · exact Ev.neg (by decide) (Ev.neg (by decide) (two 2 (.inr rfl) true rfl))
  · exact Ev.neg (by decide) (Ev.pos (by simp) (four 3 false rfl))
  · exact Ev.neg (by decide) (Ev.neg (by decide) (four 4 true rfl))
theorem rencode_loop (l : List Int) (code : Int) (hl : l.length ≤ 2000) (h0 : 0 ≤ code) (h4 : code ≤ 4) : ∀ (n i : Nat) (acc : List Int), i + n = l.length → acc.length ≤ 4 * i + 4 →
    Ev (fun k => grilleref01_Encode.l0 k l code acc (i : Int)) (if ∀ r ∈ l.drop i, ok r then (acc ++ body code (l.drop i), 0) else ([], 6))
  | 0, i, acc, h, ha => by
    refine Ev.succ ?_
    simp only [grilleref01_Encode.l0]
    refine Ev.neg (by omega) ((Ev.val _).eq ?_)
    rw [List.drop_eq_nil_of_le (by omega)]
    simp [body]
  | n + 1, i, acc, h, ha => by
    refine Ev.succ ?_
    simp only [grilleref01_Encode.l0]
    refine Ev.pos (by omega) (Ev.pos (by omega) ?_)
    rw [char_eq]
    simp only [Option.bind_some]
    rw [drop_nat l i (by omega)]
    by_cases hk : ok (rd l (i : Int))
    · refine Ev.pos (by simp [hk]) (Ev.bind (unit_eq _ code hk h0 h4) ?_)
      have h5 := enc1_length (sizeOf code) (bigOf code) (rd l (i : Int))
      refine Ev.pos (by omega) ?_
      rw [w64' i (by omega)]
      refine (rencode_loop l code hl h0 h4 n (i + 1) (acc ++ enc1 (sizeOf code) (bigOf code) (rd l (i : Int))) (by omega) (by rw [List.length_append]; omega)).eq ?_
      have e : (∀ x ∈ rd l (i : Int) :: l.drop (i + 1), ok x) ↔ ∀ x ∈ l.drop (i + 1), ok x := by simp [hk]
      simp only [e]
      simp [body]
    · refine Ev.neg (by simp [hk]) ((Ev.val _).eq ?_)
      rw [if_neg (fun h => hk (h _ List.mem_cons_self))]
theorem rencode_eq (l : List Int) (code : Int) (hl : l.length ≤ 2000) : Ev (fun k => grilleref01_Encode.f k l code) (if code < 0 ∨ 4 < code then ([], 2) else if ∀ r ∈ l, ok r then (encode code l, 0) else ([], 6)) := by
  have bad : Ev (fun k => grilleref01_Encode.j0 k l code true) ([], 2) := by
    refine Ev.succ ?_
    simp only [grilleref01_Encode.j0]
    exact Ev.pos (by simp) (Ev.val _)
  simp only [grilleref01_Encode.f]
  by_cases h0 : code < 0
  · rw [if_pos (.inl h0)]
    exact Ev.pos h0 bad
  refine Ev.neg h0 ?_
  by_cases h4 : 4 < code
  · rw [if_pos (.inr h4), show (decide (code > 4)) = true by simpa using h4]
    exact bad
  rw [if_neg (by omega), show (decide (code > 4)) = false by simpa using h4]
  refine Ev.succ ?_
  simp only [grilleref01_Encode.j0]
  refine Ev.neg (by decide) (Ev.bind (unit_eq 65279 code (by decide) (by omega) (by omega)) ?_)
  refine (rencode_loop l code hl (by omega) (by omega) l.length 0 _ (by omega) (by have := enc1_length (sizeOf code) (bigOf code) 65279; omega)).eq ?_
  simp [encode, body]
end Go.Proofs.YtdbkefgdeenjoaaDoor.Plain
end
section
namespace Go.Proofs.YtdbkefgdeenjoaaDoor.Plain
set_option linter.unusedVariables false
set_option linter.unusedSimpArgs false
open Go.RowKit Go.Proofs.YtdbkefgdeenjoaaDoor.X Go.Proofs.YtdbkefgdeenjoaaDoorW.PrintWords Go.Proofs.YtdbkefgdeenjoaaDoorW.PrintLast
theorem wf32 {l : List Int} (hw : ∀ x ∈ l, (Lit.int .i32 x).wf = true) : I32 l := by
  intro x hx
  have h1 := hw x hx
  simp [Lit.wf, IntKind.min, IntKind.max, IntKind.bits, IntKind.signed] at h1
  omega
theorem makes_loop (l b : List Int) (e : Int) (s : ByteArray) (g : Int) (hl : l.length ≤ 2000) (hb : b.length ≤ 4294967296) (hw : I32 l) : ∀ (n i : Nat), i + n = l.length → Ev (fun k => grillelaw01_TextMakes.l0 k b e b e s g s g l (l.length : Int) (i : Int)) true
  | 0, i, h => by
    refine Ev.succ ?_
    simp only [grillelaw01_TextMakes.l0]
    refine Ev.neg (by omega) (Ev.bind (eqb_eq b hb) ?_)
    exact Ev.pos rfl (Ev.pos (by simp) (Ev.pos (by simp) ((Ev.val _).eq (by simp))))
  | n + 1, i, h => by
    refine Ev.succ ?_
    simp only [grillelaw01_TextMakes.l0]
    refine Ev.pos (by omega) (Ev.pos (by omega) (Ev.pos (by omega) ?_))
    refine Ev.bind (Ev.one (may_eq _)) ?_
    have hx := hw _ (rd_mem l i (by omega))
    rw [w64 (rd l (i : Int)) (by omega) (by omega), w64' i (by omega)]
    refine Ev.bind (Ev.one (rmay_eq _)) ?_
    refine Ev.neg (by simp) ?_
    exact makes_loop l b e s g hl hb hw n (i + 1) (by omega)
theorem encode_length (code : Int) (l : List Int) : (encode code l).length ≤ 4 * (l.length + 1) := by
  unfold encode
  generalize hm : (65279 :: l : List Int) = m
  have : l.length + 1 = m.length := by rw [← hm]; rfl
  rw [this]
  clear this hm
  induction m with
  | nil => simp
  | cons r t ih =>
    have := enc1_length (sizeOf code) (bigOf code) r
    simp only [List.flatMap_cons, List.length_append, List.length_cons]
    omega
theorem textMakes : grillelaw01_TextMakes.Pure := by
  intro l0 a1 hm hy hw h1
  refine Ev.ex (g := fun k => grillelaw01_TextMakes.f k l0 a1) ?_
  have hI := wf32 hw
  simp only [grillelaw01_TextMakes.f, grillelaw01_alive.f, Option.bind_some]
  refine Ev.pos (by simp) ?_
  by_cases hl : (l0.length : Int) > 2000
  · exact Ev.pos hl (Ev.val _)
  refine Ev.neg hl ?_
  refine Ev.bind (Ev.one (encode_eq l0 a1 (by omega))) ?_
  refine Ev.bind (ours_eq l0 (by omega) hI) ?_
  refine Ev.bind (rencode_eq l0 a1 (by omega)) ?_
  refine Ev.bind (Ev.one (clean_eq l0 (by omega) hI)) ?_
  refine Ev.bind (ours_eq l0 (by omega) hI) ?_
  refine Ev.bind (rclean_eq l0 (by omega) hI) ?_
  have hb : (if a1 < 0 ∨ 4 < a1 then (([] : List Int), (2 : Int)) else if ∀ r ∈ l0, ok r then (encode a1 l0, 0) else ([], 6)).1.length ≤ 4294967296 := by
    have := encode_length a1 l0
    split
    · simp
    · split
      · show (encode a1 l0).length ≤ _
        omega
      · simp
  generalize (if a1 < 0 ∨ 4 < a1 then (([] : List Int), (2 : Int)) else if ∀ r ∈ l0, ok r then (encode a1 l0, 0) else ([], 6)) = p at hb ⊢
  generalize cleaned l0 = q
  exact makes_loop l0 p.1 p.2 q.1 q.2 (by omega) hb hI l0.length 0 (by omega)
end Go.Proofs.YtdbkefgdeenjoaaDoor.Plain
namespace Go.Proofs.YtdbkefgdeenjoaaDoor.Pure
theorem TextMakes : X.grillelaw01_TextMakes.Pure := Plain.textMakes
end Go.Proofs.YtdbkefgdeenjoaaDoor.Pure
end
section
namespace Go.Proofs.YtdbkefgdeenjoaaDoor.Tabs
set_option linter.unusedVariables false
set_option linter.unusedSimpArgs false
open Go.Shelf Go.Lib
def ren : Ren := ⟨fun n => n, fun | 5 => 5 | 119 => 95 | 138 => 97 | 139 => 98 | n => n, fun | 3 => 0 | 4 => 1 | n => n⟩
theorem accept : (Rows.laid_unicode_utf8_acceptRanges : DataW Unit) = acceptData := by kernel_rfl
theorem of_laid {w : World} {l : List (String × DataW Unit)} (h : laidMet Tryd.prog l w) (h3 : ("unicode/utf8.first", Rows.laid_unicode_utf8_first) ∈ l) (h4 : ("unicode/utf8.acceptRanges", Rows.laid_unicode_utf8_acceptRanges) ∈ l) : Holds w := by
  have ht : Utf8Tabs 0 1 w := utf8Tabs_of_readsT (ρ := ren) ⟨Tryd.underlying5, Tryd.underlying95, Tryd.underlying97, Tryd.underlying98⟩ ⟨by kernel_rfl, by kernel_rfl, by kernel_rfl, by kernel_rfl, by kernel_rfl, by kernel_rfl, by kernel_rfl⟩
    (Pinned.utf8First_eq ▸ laidMet.reads h h3) (accept ▸ laidMet.reads h h4)
  refine ⟨ht, ?_⟩
  have := World.block_lt_of_cell? w _ (ht.2 0 (by decide)).1
  exact this
end Go.Proofs.YtdbkefgdeenjoaaDoor.Tabs
end
section
namespace Go.Proofs.YtdbkefgdeenjoaaDoorW.PrintWords
open Go.ChangeShapes Go.WideShapes
theorem sized_ints {H : Type} {enc : TypeId × Value → H} {P : Program} {W : World} {base : Nat} {spare : Nat → Bool} {held : Bool} {t e : TypeId} {k : IntKind} {a : Option Addr} {len cap : Nat} {d : DataW H} {ps : List MemPlace} {ts : List TypeId} {ds : List (DataW H)} {j : Nat}
    (hsz : (DataW.weightsEach P ts ds).all (· ≤ reachBytes) = true) (ht : ts[j]? = some t) (hd : ds[j]? = some d) (hu : P.underlying t = some (.slice e)) (he : P.underlying e = some (.int k)) (hc : P.cellsOf e = 1) {B : Nat} (hB : P.bytesOf e = B)
    (h : DataW.Trod enc P W base spare held t (.slice a len cap) d ps) : len * B ≤ 140737488351232 := by
  obtain ⟨fuel, hf⟩ := h
  rcases open_ints hu he hc hf with ⟨hcs, _⟩ | ⟨x, l, c, zs, hcs, _, hl, _, hz, hx, _, _⟩
  · simp [Value.cells] at hcs
    obtain ⟨rfl, rfl, rfl⟩ := hcs
    simp
  · simp [Value.cells] at hcs
    obtain ⟨rfl, rfl, rfl⟩ := hcs
    obtain ⟨hx, _⟩ := Prod.mk.inj hx
    subst hx
    have z := sized_slice hsz ht hd hu
    rw [hB] at z
    have hl2 : len ≤ zs.length := by
      rw [hz]
      split
      · exact hl
      · exact Nat.le_refl _
    have h1 : (lits (H := H) k (zs.take len)).length + (lits (H := H) k (zs.drop len)).length = zs.length := by
      simp [lits]
      omega
    rw [h1] at z
    exact Nat.le_trans (Nat.mul_le_mul_right _ hl2) z
end Go.Proofs.YtdbkefgdeenjoaaDoorW.PrintWords
end
