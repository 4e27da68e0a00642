/- tag.own: a tag is a name just if it is a sign and one to forty bytes of a name behind it. No condition. -/
import Derived.Test.YtmedojlhnpcniaaShelf
import Derived.WalkKit
import Derived.Lib.DecodeN
import Derived.Lib.Strings
namespace Go.Proofs.Ytmedojlhnpcniaa.Own
open Go.RowKit Go.Lib

def namedN (r : Nat) : Bool := (97 ≤ r && r ≤ 122) || (65 ≤ r && r ≤ 90) || (48 ≤ r && r ≤ 57) || r == 45

theorem named_calls (r : Nat) (w : World) : Calls Try.prog 38 #[.int .i32 r] w fun e w' => e = .returned (.bool (namedN r)) ∧ w = w' := by
  unfold namedN
  by_cases h1 : 97 ≤ r <;> by_cases h2 : r ≤ 122 <;> by_cases h3 : 65 ≤ r <;> by_cases h4 : r ≤ 90 <;> by_cases h5 : 48 ≤ r <;> by_cases h6 : r ≤ 57 <;> by_cases h7 : r = 45
  all_goals first | (exfalso; omega) | skip
  all_goals
    have z1 : (97 : Int) ≤ (r : Int) ↔ 97 ≤ r := by omega
    have z2 : (r : Int) ≤ 122 ↔ r ≤ 122 := by omega
    have z3 : (65 : Int) ≤ (r : Int) ↔ 65 ≤ r := by omega
    have z4 : (r : Int) ≤ 90 ↔ r ≤ 90 := by omega
    have z5 : (48 : Int) ≤ (r : Int) ↔ 48 ≤ r := by omega
    have z6 : (r : Int) ≤ 57 ↔ r ≤ 57 := by omega
    have z7 : ((r : Int) == 45) = decide (r = 45) := by rw [Bool.eq_iff_iff]; simp; omega
    go_enter Try.func38, Try.ntmps38
    go_wp2
    go_ret
    exact ⟨by simp [*], rfl⟩

theorem strange (w : World) : PredAt Try.prog 37 #[] encR (fun r => !namedN r) w := fun W r _ => by
  unfold FnGives encR
  have hn := named_calls r W
  go_enter Try.func37, Try.ntmps37
  go_wp2_with (go_at_call 38; refine hn.mono ?_; rintro e w' ⟨rfl, rfl⟩)
  go_ret
  exact ⟨rfl, 0, rfl⟩

theorem contains_calls (s : ByteArray) (w : World) :
    Calls Try.prog 39 #[.string s, .func (.func 37) #[] #[]] w fun e w' => e = .returned (.bool (decide (0 ≤ Lib.idxFunc (fun r => !namedN r) true s))) ∧ Below w.heap.size w w' :=
  Try.strings_ContainsFunc 37 #[] (enters_of Try.func37 (by kernel_rfl) rfl) _ s w (strange w)

def nameByte (c : UInt8) : Bool := namedN c.toNat

theorem decode_low (s : ByteArray) (i : Nat) (h : (s.get! i).toNat < 128) : Utf8.decode s i = ((s.get! i).toNat, 1) := by
  rw [decode_at]; unfold decodeN; rw [if_pos h]
theorem decode_high (s : ByteArray) (i : Nat) (h : ¬ (s.get! i).toNat < 128) : 128 ≤ (Utf8.decode s i).1 := by
  rw [decode_at]; unfold decodeN; rw [if_neg h]
  repeat' split
  all_goals simp
  all_goals omega

theorem idx_from (s : ByteArray) : ∀ (f pos : Nat), s.size - pos ≤ f →
    decide (0 ≤ idxFuncFrom (fun r => !namedN r) true s f pos) = !(s.data.toList.drop pos).all nameByte
  | 0, pos => fun h => by
    have : s.data.toList.drop pos = [] := List.drop_eq_nil_of_le (by rw [Array.length_toList]; show s.size ≤ pos; omega)
    rw [this]; rfl
  | f + 1, pos => fun h => by
    unfold idxFuncFrom
    by_cases hp : pos < s.size
    · have hl : pos < s.data.toList.length := by rw [Array.length_toList]; exact hp
      have hg : s.get! pos = s.data.toList[pos]'hl := by
        have hp' : pos < s.data.size := hp
        show s.data[pos]! = _
        rw [getElem!_pos s.data pos hp', Array.getElem_toList]
      rw [if_pos hp, List.drop_eq_getElem_cons hl, List.all_cons, ← hg]
      by_cases hb : (s.get! pos).toNat < 128
      · rw [decode_low s pos hb]
        by_cases hn : namedN (s.get! pos).toNat = true
        · rw [if_neg (by simp [hn]), idx_from s f (pos + 1) (by omega)]
          simp [nameByte, hn]
        · rw [if_pos (by simpa using hn)]
          have : (0 : Int) ≤ (pos : Int) := by omega
          simp [nameByte, hn, this]
      · have h2 := decode_high s pos hb
        have hz : ∀ r : Nat, 128 ≤ r → namedN r = false := by
          intro r hr; unfold namedN; simp; omega
        rw [if_pos (by simp [hz _ h2])]
        have h3 : nameByte (s.get! pos) = false := hz _ (by omega)
        have : (0 : Int) ≤ (pos : Int) := by omega
        simp [h3, this]
    · have : s.data.toList.drop pos = [] := List.drop_eq_nil_of_le (by rw [Array.length_toList]; show s.size ≤ pos; omega)
      rw [if_neg hp, this]; rfl

theorem contains_eq (s : ByteArray) : decide (0 ≤ Lib.idxFunc (fun r => !namedN r) true s) = !s.data.toList.all nameByte := by
  have := idx_from s s.size 0 (by omega)
  rw [List.drop_zero] at this; exact this
end Go.Proofs.Ytmedojlhnpcniaa.Own
