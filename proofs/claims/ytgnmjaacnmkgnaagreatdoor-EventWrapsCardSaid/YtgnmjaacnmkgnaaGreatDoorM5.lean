/- Words and walks that the row of EventWraps needs: printed by programs, and plain laws. -/
import Derived.Test.YtgnmjaacnmkgnaaGreatDoorM2
import Derived.WalkKit
import Derived.Lib.DecodeN
import Derived.Lib.Strings
import Derived.Test.YtgnmjaacnmkgnaaGreatDoorProg
import Derived.Below
import Derived.Deep.Draws
import Derived.Deep.AppendLies
import Derived.Maps.AppendAt
import Derived.OwnWalk
import Derived.Laws.BytesArg
import Derived.Laws.MakeOwn
import Derived.Laws.OwnMore
import Derived.Deep.OwnRows
import Derived.Tactics
import Derived.Lib.ConvBytes
import Derived.Laws.Slices
import Derived.KernelRfl
import Derived.RowKit3
import Derived.Deep.LoopGhost
import Derived.Deep.QuietTactic
import Derived.BigQuiet
import Derived.WideLaws
import Derived.Deep.DeepCutAuto
import Derived.Deep.CutBlock
import Derived.Deep.RegionHeld3
import Derived.Laws.Rows
import Derived.Lib.AppendStr
import Derived.ArgAppend
import Derived.Laws.IdiomCopy
import Derived.OrdersHeld
import Derived.Laws.BitsLemmas
import Derived.RowKit
import Derived.Test.YtgnmjaacnmkgnaaGreatDoorM1
import Derived.Laws.StructEq
import Derived.Test.YtgnmjaacnmkgnaaGreatDoorM3
namespace Go.Proofs.YtgnmjaacnmkgnaaGreatDoorW.PrintWords
end Go.Proofs.YtgnmjaacnmkgnaaGreatDoorW.PrintWords
namespace Go.Proofs.YtgnmjaacnmkgnaaGreatDoorW.PrintLast
end Go.Proofs.YtgnmjaacnmkgnaaGreatDoorW.PrintLast
namespace Go.Proofs.YtgnmjaacnmkgnaaGreatDoorW.PrintMore
end Go.Proofs.YtgnmjaacnmkgnaaGreatDoorW.PrintMore
section
namespace Go.Proofs.YtgnmjaacnmkgnaaGreatDoor.Own
open Go.RowKit Go.Lib
def namedN (r : Nat) : Bool := (97 ≤ r && r ≤ 122) || (65 ≤ r && r ≤ 90) || (48 ≤ r && r ≤ 57) || r == 45
theorem named_calls (r : Nat) (w : World) : Calls Tryz.prog 96 #[.int .i32 r] w fun e w' => e = .returned (.bool (namedN r)) ∧ w = w' := by
  unfold namedN
  by_cases h1 : 97 ≤ r <;> by_cases h2 : r ≤ 122 <;> by_cases h3 : 65 ≤ r <;> by_cases h4 : r ≤ 90 <;> by_cases h5 : 48 ≤ r <;> by_cases h6 : r ≤ 57 <;> by_cases h7 : r = 45
  all_goals first | (exfalso; omega) | skip
  all_goals
    have z1 : (97 : Int) ≤ (r : Int) ↔ 97 ≤ r := by omega
    have z2 : (r : Int) ≤ 122 ↔ r ≤ 122 := by omega
    have z3 : (65 : Int) ≤ (r : Int) ↔ 65 ≤ r := by omega
    have z4 : (r : Int) ≤ 90 ↔ r ≤ 90 := by omega
    have z5 : (48 : Int) ≤ (r : Int) ↔ 48 ≤ r := by omega
    have z6 : (r : Int) ≤ 57 ↔ r ≤ 57 := by omega
    have z7 : ((r : Int) == 45) = decide (r = 45) := by rw [Bool.eq_iff_iff]; simp; omega
    go_enter Tryz.func96, Tryz.ntmps96
    go_wp2
    go_ret
    exact ⟨by simp [*], rfl⟩
theorem strange (w : World) : PredAt Tryz.prog 95 #[] encR (fun r => !namedN r) w := fun W r _ => by
  unfold FnGives encR
  have hn := named_calls r W
  go_enter Tryz.func95, Tryz.ntmps95
  go_wp2_with (go_at_call 96; refine hn.mono ?_; rintro e w' ⟨rfl, rfl⟩)
  go_ret
  exact ⟨rfl, 0, rfl⟩
theorem contains_calls (s : ByteArray) (w : World) :
    Calls Tryz.prog 70 #[.string s, .func (.func 95) #[] #[]] w fun e w' => e = .returned (.bool (decide (0 ≤ Lib.idxFunc (fun r => !namedN r) true s))) ∧ Below w.heap.size w w' :=
  Tryz.strings_ContainsFunc 95 #[] (enters_of Tryz.func95 (by kernel_rfl) rfl) _ s w (strange w)
def nameByte (c : UInt8) : Bool := namedN c.toNat
theorem decode_low (s : ByteArray) (i : Nat) (h : (s.get! i).toNat < 128) : Utf8.decode s i = ((s.get! i).toNat, 1) := by
  rw [decode_at]; unfold decodeN; rw [if_pos h]
theorem decode_high (s : ByteArray) (i : Nat) (h : ¬ (s.get! i).toNat < 128) : 128 ≤ (Utf8.decode s i).1 := by
  rw [decode_at]; unfold decodeN; rw [if_neg h]
  repeat' split
  all_goals simp
  all_goals omega
theorem idx_from (s : ByteArray) : ∀ (f pos : Nat), s.size - pos ≤ f →
    decide (0 ≤ idxFuncFrom (fun r => !namedN r) true s f pos) = !(s.data.toList.drop pos).all nameByte
  | 0, pos => fun h => by
    have : s.data.toList.drop pos = [] := List.drop_eq_nil_of_le (by rw [Array.length_toList]; show s.size ≤ pos; omega)
    rw [this]; rfl
  | f + 1, pos => fun h => by
    unfold idxFuncFrom
    by_cases hp : pos < s.size
    · have hl : pos < s.data.toList.length := by rw [Array.length_toList]; exact hp
      have hg : s.get! pos = s.data.toList[pos]'hl := by
        have hp' : pos < s.data.size := hp
        show s.data[pos]! = _
        rw [getElem!_pos s.data pos hp', Array.getElem_toList]
      rw [if_pos hp, List.drop_eq_getElem_cons hl, List.all_cons, ← hg]
      by_cases hb : (s.get! pos).toNat < 128
      · rw [decode_low s pos hb]
        by_cases hn : namedN (s.get! pos).toNat = true
        · rw [if_neg (by simp [hn]), idx_from s f (pos + 1) (by omega)]
          simp [nameByte, hn]
        · rw [if_pos (by simpa using hn)]
          have : (0 : Int) ≤ (pos : Int) := by omega
          simp [nameByte, hn, this]
      · have h2 := decode_high s pos hb
        have hz : ∀ r : Nat, 128 ≤ r → namedN r = false := by
          intro r hr; unfold namedN; simp; omega
        rw [if_pos (by simp [hz _ h2])]
        have h3 : nameByte (s.get! pos) = false := hz _ (by omega)
        have : (0 : Int) ≤ (pos : Int) := by omega
        simp [h3, this]
    · have : s.data.toList.drop pos = [] := List.drop_eq_nil_of_le (by rw [Array.length_toList]; show s.size ≤ pos; omega)
      rw [if_neg hp, this]; rfl
theorem contains_eq (s : ByteArray) : decide (0 ≤ Lib.idxFunc (fun r => !namedN r) true s) = !s.data.toList.all nameByte := by
  have := idx_from s s.size 0 (by omega)
  rw [List.drop_zero] at this; exact this
end Go.Proofs.YtgnmjaacnmkgnaaGreatDoor.Own
end
section
namespace Go.Proofs.YtgnmjaacnmkgnaaGreatDoor.Nam
open Go.RowKit Go.Lib
def namedN (r : Nat) : Bool := (97 ≤ r && r ≤ 122) || (65 ≤ r && r ≤ 90) || (48 ≤ r && r ≤ 57) || r == 45 || r == 95
theorem strange (w : World) : PredAt Tryz.prog 69 #[] encR (fun r => !namedN r) w := fun W r _ => by
  unfold FnGives encR namedN
  by_cases h1 : 97 ≤ r <;> by_cases h2 : r ≤ 122 <;> by_cases h3 : 65 ≤ r <;> by_cases h4 : r ≤ 90 <;> by_cases h5 : 48 ≤ r <;> by_cases h6 : r ≤ 57 <;> by_cases h7 : r = 45 <;> by_cases h8 : r = 95
  all_goals first | (exfalso; omega) | skip
  all_goals
    have z1 : ((r : Int) < 97) ↔ ¬ 97 ≤ r := by omega
    have z2 : (122 < (r : Int)) ↔ ¬ r ≤ 122 := by omega
    have z3 : ((r : Int) < 65) ↔ ¬ 65 ≤ r := by omega
    have z4 : (90 < (r : Int)) ↔ ¬ r ≤ 90 := by omega
    have z5 : ((r : Int) < 48) ↔ ¬ 48 ≤ r := by omega
    have z6 : (57 < (r : Int)) ↔ ¬ r ≤ 57 := by omega
    have z7 : ((r : Int) == 45) = decide (r = 45) := by rw [Bool.eq_iff_iff]; simp; omega
    have z8 : ((r : Int) == 95) = decide (r = 95) := by rw [Bool.eq_iff_iff]; simp; omega
    have z9 : ((r : Int) != 45) = !decide (r = 45) := by rw [bne, z7]
    have z10 : ((r : Int) != 95) = !decide (r = 95) := by rw [bne, z8]
    go_enter Tryz.func69, Tryz.ntmps69
    go_wp2
    go_ret
    exact ⟨by simp [*], 0, rfl⟩
theorem contains_calls (s : ByteArray) (w : World) :
    Calls Tryz.prog 70 #[.string s, .func (.func 69) #[] #[]] w fun e w' => e = .returned (.bool (decide (0 ≤ Lib.idxFunc (fun r => !namedN r) true s))) ∧ Below w.heap.size w w' :=
  Tryz.strings_ContainsFunc 69 #[] (enters_of Tryz.func69 (by kernel_rfl) rfl) _ s w (strange w)
def nameByte (c : UInt8) : Bool := namedN c.toNat
theorem decode_low (s : ByteArray) (i : Nat) (h : (s.get! i).toNat < 128) : Utf8.decode s i = ((s.get! i).toNat, 1) := by
  rw [decode_at]; unfold decodeN; rw [if_pos h]
theorem decode_high (s : ByteArray) (i : Nat) (h : ¬ (s.get! i).toNat < 128) : 128 ≤ (Utf8.decode s i).1 := by
  rw [decode_at]; unfold decodeN; rw [if_neg h]
  repeat' split
  all_goals simp
  all_goals omega
theorem idx_from (s : ByteArray) : ∀ (f pos : Nat), s.size - pos ≤ f →
    decide (0 ≤ idxFuncFrom (fun r => !namedN r) true s f pos) = !(s.data.toList.drop pos).all nameByte
  | 0, pos => fun h => by
    have : s.data.toList.drop pos = [] := List.drop_eq_nil_of_le (by rw [Array.length_toList]; show s.size ≤ pos; omega)
    rw [this]; rfl
  | f + 1, pos => fun h => by
    unfold idxFuncFrom
    by_cases hp : pos < s.size
    · have hl : pos < s.data.toList.length := by rw [Array.length_toList]; exact hp
      have hg : s.get! pos = s.data.toList[pos]'hl := by
        have hp' : pos < s.data.size := hp
        show s.data[pos]! = _
        rw [getElem!_pos s.data pos hp', Array.getElem_toList]
      rw [if_pos hp, List.drop_eq_getElem_cons hl, List.all_cons, ← hg]
      by_cases hb : (s.get! pos).toNat < 128
      · rw [decode_low s pos hb]
        by_cases hn : namedN (s.get! pos).toNat = true
        · rw [if_neg (by simp [hn]), idx_from s f (pos + 1) (by omega)]
          simp [nameByte, hn]
        · rw [if_pos (by simpa using hn)]
          have : (0 : Int) ≤ (pos : Int) := by omega
          simp [nameByte, hn, this]
      · have h2 := decode_high s pos hb
        have hz : ∀ r : Nat, 128 ≤ r → namedN r = false := by
          intro r hr; unfold namedN; simp; omega
        rw [if_pos (by simp [hz _ h2])]
        have h3 : nameByte (s.get! pos) = false := hz _ (by omega)
        have : (0 : Int) ≤ (pos : Int) := by omega
        simp [h3, this]
    · have : s.data.toList.drop pos = [] := List.drop_eq_nil_of_le (by rw [Array.length_toList]; show s.size ≤ pos; omega)
      rw [if_neg hp, this]; rfl
theorem contains_eq (s : ByteArray) : decide (0 ≤ Lib.idxFunc (fun r => !namedN r) true s) = !s.data.toList.all nameByte := by
  have := idx_from s s.size 0 (by omega)
  rw [List.drop_zero] at this; exact this
end Go.Proofs.YtgnmjaacnmkgnaaGreatDoor.Nam
end
section
namespace Go.Proofs.YtgnmjaacnmkgnaaGreatDoor.T
open Go.RowKit Go.Proofs.YtgnmjaacnmkgnaaGreatDoorW.PrintWords Go.Proofs.YtgnmjaacnmkgnaaGreatDoorW.PrintLast Go.Proofs.YtgnmjaacnmkgnaaGreatDoorW.PrintMore
attribute [local go_sem] max2_int min2_int max_two min_two
set_option linter.unusedVariables false
set_option linter.unusedSimpArgs false
def errW : Option Int → Value
  | none => .nilIface
  | some c => .iface 147 (.int .i64 c)
theorem errW_none : errW none = .nilIface := rfl
theorem errW_some (c : Int) : errW (some c) = .iface 147 (.int .i64 c) := rfl
theorem xbne_nil (l : List UInt8) : (l != []) = !l.isEmpty := by cases l <;> rfl
theorem xbeq_nil (l : List UInt8) : (l == []) = l.isEmpty := by cases l <;> rfl
structure S29 where
  f0 : Int
  f1 : ByteArray
  f2 : ByteArray
  f3 : ByteArray
  f4 : Bool
structure S45 where
  f0 : Int
  f1 : ByteArray
  f2 : ByteArray
  f3 : ByteArray
  f4 : Bool
end Go.Proofs.YtgnmjaacnmkgnaaGreatDoor.T
end
section
namespace Go.Proofs.YtgnmjaacnmkgnaaGreatDoor.T
open Go.RowKit Go.Proofs.YtgnmjaacnmkgnaaGreatDoorW.PrintWords Go.Proofs.YtgnmjaacnmkgnaaGreatDoorW.PrintLast Go.Proofs.YtgnmjaacnmkgnaaGreatDoorW.PrintMore
attribute [local go_sem] max2_int min2_int max_two min_two
set_option linter.unusedVariables false
set_option linter.unusedSimpArgs false
def tag_plain.f (a0 : ByteArray) : Option (Bool) := if a0.toList = ([110, 117, 108, 108] : List UInt8) then (some true) else (if a0.toList = ([98, 111, 111, 108] : List UInt8) then (some true) else (if a0.toList = ([105, 110, 116] : List UInt8) then (some true) else (some (a0.toList == ([102, 108, 111, 97, 116] : List UInt8)))))
set_option maxHeartbeats 8000000 in
set_option maxRecDepth 100000 in
theorem tag_plain.calls (a0 : ByteArray) (r : Bool) (w : World) (h : tag_plain.f a0 = some r) :
    Calls Tryz.prog 94 #[.string a0] w fun e w' => e = .returned (.bool r) ∧ Drawn0 w w' := by
  have H : (if a0.toList = ([110, 117, 108, 108] : List UInt8) then (some true) else (if a0.toList = ([98, 111, 111, 108] : List UInt8) then (some true) else (if a0.toList = ([105, 110, 116] : List UInt8) then (some true) else (some (a0.toList == ([102, 108, 111, 97, 116] : List UInt8)))))) = some r := h
  clear h
  by_cases c2 : a0.toList = ([110, 117, 108, 108] : List UInt8)
  · rw [if_pos c2] at H
    have c2b0 : (a0.toList == ([110, 117, 108, 108] : List UInt8)) = true := beq_iff_eq.mpr c2
    have c2b1 : (a0.toList != ([110, 117, 108, 108] : List UInt8)) = false := bne_eq_false_iff_eq.mpr c2
    clear c2
    obtain rfl := Option.some.inj H
    go_enter Tryz.func94, Tryz.ntmps94
    go_wp2
    go_ret
    exact ⟨by first | rfl | (simp; done) | (simp [*]; done) | (simp [xbne_nil, xbeq_nil]; done), by repeat (first | exact Drawn0.refl _ | apply Drawn0.step)⟩
  · rw [if_neg c2] at H
    have c2b0 : (a0.toList == ([110, 117, 108, 108] : List UInt8)) = false := beq_eq_false_iff_ne.mpr c2
    have c2b1 : (a0.toList != ([110, 117, 108, 108] : List UInt8)) = true := bne_iff_ne.mpr c2
    by_cases c3 : a0.toList = ([98, 111, 111, 108] : List UInt8)
    · rw [if_pos c3] at H
      have c3b0 : (a0.toList == ([98, 111, 111, 108] : List UInt8)) = true := beq_iff_eq.mpr c3
      have c3b1 : (a0.toList != ([98, 111, 111, 108] : List UInt8)) = false := bne_eq_false_iff_eq.mpr c3
      clear c3
      obtain rfl := Option.some.inj H
      go_enter Tryz.func94, Tryz.ntmps94
      go_wp2
      go_ret
      exact ⟨by first | rfl | (simp; done) | (simp [*]; done) | (simp [xbne_nil, xbeq_nil]; done), by repeat (first | exact Drawn0.refl _ | apply Drawn0.step)⟩
    · rw [if_neg c3] at H
      have c3b0 : (a0.toList == ([98, 111, 111, 108] : List UInt8)) = false := beq_eq_false_iff_ne.mpr c3
      have c3b1 : (a0.toList != ([98, 111, 111, 108] : List UInt8)) = true := bne_iff_ne.mpr c3
      by_cases c4 : a0.toList = ([105, 110, 116] : List UInt8)
      · rw [if_pos c4] at H
        have c4b0 : (a0.toList == ([105, 110, 116] : List UInt8)) = true := beq_iff_eq.mpr c4
        have c4b1 : (a0.toList != ([105, 110, 116] : List UInt8)) = false := bne_eq_false_iff_eq.mpr c4
        clear c4
        obtain rfl := Option.some.inj H
        go_enter Tryz.func94, Tryz.ntmps94
        go_wp2
        go_ret
        exact ⟨by first | rfl | (simp; done) | (simp [*]; done) | (simp [xbne_nil, xbeq_nil]; done), by repeat (first | exact Drawn0.refl _ | apply Drawn0.step)⟩
      · rw [if_neg c4] at H
        have c4b0 : (a0.toList == ([105, 110, 116] : List UInt8)) = false := beq_eq_false_iff_ne.mpr c4
        have c4b1 : (a0.toList != ([105, 110, 116] : List UInt8)) = true := bne_iff_ne.mpr c4
        obtain rfl := Option.some.inj H
        go_enter Tryz.func94, Tryz.ntmps94
        go_wp2
        go_ret
        exact ⟨by first | rfl | (simp; done) | (simp [*]; done) | (simp [xbne_nil, xbeq_nil]; done), by repeat (first | exact Drawn0.refl _ | apply Drawn0.step)⟩
def tag_Core.f (a0 : ByteArray) : Option (Bool) := if a0.toList = ([115, 101, 113] : List UInt8) then (some true) else (if a0.toList = ([109, 97, 112] : List UInt8) then (some true) else (if a0.toList = ([115, 116, 114] : List UInt8) then (some true) else ((tag_plain.f a0).bind fun t101 => (some t101))))
set_option maxHeartbeats 8000000 in
set_option maxRecDepth 100000 in
theorem tag_Core.calls (a0 : ByteArray) (r : Bool) (w : World) (h : tag_Core.f a0 = some r) :
    Calls Tryz.prog 71 #[.string a0] w fun e w' => e = .returned (.bool r) ∧ Drawn0 w w' := by
  have H : (if a0.toList = ([115, 101, 113] : List UInt8) then (some true) else (if a0.toList = ([109, 97, 112] : List UInt8) then (some true) else (if a0.toList = ([115, 116, 114] : List UInt8) then (some true) else ((tag_plain.f a0).bind fun t101 => (some t101))))) = some r := h
  clear h
  by_cases c2 : a0.toList = ([115, 101, 113] : List UInt8)
  · rw [if_pos c2] at H
    have c2b0 : (a0.toList == ([115, 101, 113] : List UInt8)) = true := beq_iff_eq.mpr c2
    have c2b1 : (a0.toList != ([115, 101, 113] : List UInt8)) = false := bne_eq_false_iff_eq.mpr c2
    clear c2
    obtain rfl := Option.some.inj H
    go_enter Tryz.func71, Tryz.ntmps71
    go_wp2
    go_ret
    exact ⟨by first | rfl | (simp; done) | (simp [*]; done) | (simp [xbne_nil, xbeq_nil]; done), by repeat (first | exact Drawn0.refl _ | apply Drawn0.step)⟩
  · rw [if_neg c2] at H
    have c2b0 : (a0.toList == ([115, 101, 113] : List UInt8)) = false := beq_eq_false_iff_ne.mpr c2
    have c2b1 : (a0.toList != ([115, 101, 113] : List UInt8)) = true := bne_iff_ne.mpr c2
    by_cases c3 : a0.toList = ([109, 97, 112] : List UInt8)
    · rw [if_pos c3] at H
      have c3b0 : (a0.toList == ([109, 97, 112] : List UInt8)) = true := beq_iff_eq.mpr c3
      have c3b1 : (a0.toList != ([109, 97, 112] : List UInt8)) = false := bne_eq_false_iff_eq.mpr c3
      clear c3
      obtain rfl := Option.some.inj H
      go_enter Tryz.func71, Tryz.ntmps71
      go_wp2
      go_ret
      exact ⟨by first | rfl | (simp; done) | (simp [*]; done) | (simp [xbne_nil, xbeq_nil]; done), by repeat (first | exact Drawn0.refl _ | apply Drawn0.step)⟩
    · rw [if_neg c3] at H
      have c3b0 : (a0.toList == ([109, 97, 112] : List UInt8)) = false := beq_eq_false_iff_ne.mpr c3
      have c3b1 : (a0.toList != ([109, 97, 112] : List UInt8)) = true := bne_iff_ne.mpr c3
      by_cases c4 : a0.toList = ([115, 116, 114] : List UInt8)
      · rw [if_pos c4] at H
        have c4b0 : (a0.toList == ([115, 116, 114] : List UInt8)) = true := beq_iff_eq.mpr c4
        have c4b1 : (a0.toList != ([115, 116, 114] : List UInt8)) = false := bne_eq_false_iff_eq.mpr c4
        clear c4
        obtain rfl := Option.some.inj H
        go_enter Tryz.func71, Tryz.ntmps71
        go_wp2
        go_ret
        exact ⟨by first | rfl | (simp; done) | (simp [*]; done) | (simp [xbne_nil, xbeq_nil]; done), by repeat (first | exact Drawn0.refl _ | apply Drawn0.step)⟩
      · rw [if_neg c4] at H
        have c4b0 : (a0.toList == ([115, 116, 114] : List UInt8)) = false := beq_eq_false_iff_ne.mpr c4
        have c4b1 : (a0.toList != ([115, 116, 114] : List UInt8)) = true := bne_iff_ne.mpr c4
        replace H := Option.bind_eq_some_iff.mp H
        obtain ⟨t101, A50, H⟩ := H
        replace H : (some t101) = some r := H
        have A5 := Aside0.mk A50
        clear A50
        obtain rfl := Option.some.inj H
        go_enter Tryz.func71, Tryz.ntmps71
        go_wp2_with (first | ((with_reducible refine gate_callee (f := 94) rfl ?_); refine goesL_ (some 9) rfl rfl Tryz.func94 (by kernel_rfl) rfl #[.string a0] rfl (by (try simp only [List.map_toArray, List.map_cons, List.map_nil]); first | done | rfl | (simp only [List.length_drop, List.length_take]; rfl)) ?_; (with_reducible refine (tag_plain.calls a0 t101 _ A5.out).mono ?_); rintro e w' ⟨rfl, ⟨nd, rfl⟩⟩; refine ⟨_, rfl, ?_⟩))
        go_ret
        exact ⟨by first | rfl | (simp; done) | (simp [*]; done) | (simp [xbne_nil, xbeq_nil]; done), by repeat (first | exact Drawn0.refl _ | apply Drawn0.step)⟩
def stringslite_HasPrefix.f (a0 : ByteArray) (a1 : ByteArray) : Option (Bool) := if (a0.size : Int) ≥ (a1.size : Int) then (if 0 ≤ (a1.size : Int) then (if (a1.size : Int) ≤ (a0.size : Int) then (some ((a0.extract 0 ((a1.size : Int) : Int).toNat).toList == a1.toList)) else (none)) else (none)) else (some false)
set_option maxHeartbeats 8000000 in
set_option maxRecDepth 100000 in
theorem stringslite_HasPrefix.calls (a0 : ByteArray) (a1 : ByteArray) (r : Bool) (w : World) (h : stringslite_HasPrefix.f a0 a1 = some r) :
    Calls Tryz.prog 86 #[.string a0, .string a1] w fun e w' => e = .returned (.bool r) ∧ Drawn0 w w' := by
  have H : (if (a0.size : Int) ≥ (a1.size : Int) then (if 0 ≤ (a1.size : Int) then (if (a1.size : Int) ≤ (a0.size : Int) then (some ((a0.extract 0 ((a1.size : Int) : Int).toNat).toList == a1.toList)) else (none)) else (none)) else (some false)) = some r := h
  clear h
  by_cases c3 : (a0.size : Int) ≥ (a1.size : Int)
  · rw [if_pos c3] at H
    have c3b0 : decide ((a1.size : Int) ≤ (a0.size : Int)) = true := decide_eq_true c3
    have c3b1 : decide (a1.size ≤ a0.size) = true := decide_eq_true (Int.ofNat_le.mp c3)
    clear c3
    by_cases c4 : 0 ≤ (a1.size : Int)
    · rw [if_pos c4] at H
      have c4b0 := eq_true c4
      have c4b1 : decide (0 ≤ (a1.size : Int)) = true := decide_eq_true c4
      clear c4
      by_cases c5 : (a1.size : Int) ≤ (a0.size : Int)
      · rw [if_pos c5] at H
        have c5b0 := eq_true c5
        have c5b1 : decide ((a1.size : Int) ≤ (a0.size : Int)) = true := decide_eq_true c5
        clear c5
        obtain rfl := Option.some.inj H
        go_enter Tryz.func86, Tryz.ntmps86
        go_wp2
        go_ret
        exact ⟨by first | rfl | (simp; done) | (simp [*]; done) | (simp [xbne_nil, xbeq_nil]; done), by repeat (first | exact Drawn0.refl _ | apply Drawn0.step)⟩
      · rw [if_neg c5] at H
        exact absurd H (by simp)
    · rw [if_neg c4] at H
      exact absurd H (by simp)
  · rw [if_neg c3] at H
    have c3b0 : decide ((a1.size : Int) ≤ (a0.size : Int)) = false := decide_eq_false c3
    have c3b1 : decide (a1.size ≤ a0.size) = false := decide_eq_false (fun h => c3 (Int.ofNat_le.mpr h))
    clear c3
    obtain rfl := Option.some.inj H
    go_enter Tryz.func86, Tryz.ntmps86
    go_wp2
    go_ret
    exact ⟨by first | rfl | (simp; done) | (simp [*]; done) | (simp [xbne_nil, xbeq_nil]; done), by repeat (first | exact Drawn0.refl _ | apply Drawn0.step)⟩
def stringslite_CutPrefix.f (a0 : ByteArray) (a1 : ByteArray) : Option (ByteArray × Bool) := (stringslite_HasPrefix.f a0 a1).bind fun t102 => (if t102 = true then (if 0 ≤ (a1.size : Int) then (if (a1.size : Int) ≤ (a0.size : Int) then (some (a0.extract ((a1.size : Int) : Int).toNat a0.size, true)) else (none)) else (none)) else (some (a0, false)))
set_option maxHeartbeats 8000000 in
set_option maxRecDepth 100000 in
theorem stringslite_CutPrefix.calls (a0 : ByteArray) (a1 : ByteArray) (r1 : ByteArray) (r2 : Bool) (w : World) (h : stringslite_CutPrefix.f a0 a1 = some (r1, r2)) :
    Calls Tryz.prog 110 #[.string a0, .string a1] w fun e w' => e = .returned (.tuple #[.string r1, .bool r2]) ∧ Drawn0 w w' := by
  have H : ((stringslite_HasPrefix.f a0 a1).bind fun t102 => (if t102 = true then (if 0 ≤ (a1.size : Int) then (if (a1.size : Int) ≤ (a0.size : Int) then (some (a0.extract ((a1.size : Int) : Int).toNat a0.size, true)) else (none)) else (none)) else (some (a0, false)))) = some (r1, r2) := h
  clear h
  replace H := Option.bind_eq_some_iff.mp H
  obtain ⟨t102, A30, H⟩ := H
  replace H : (if t102 = true then (if 0 ≤ (a1.size : Int) then (if (a1.size : Int) ≤ (a0.size : Int) then (some (a0.extract ((a1.size : Int) : Int).toNat a0.size, true)) else (none)) else (none)) else (some (a0, false))) = some (r1, r2) := H
  have A3 := Aside0.mk A30
  clear A30
  by_cases c4 : t102 = true
  · subst c4
    have H1 : (if 0 ≤ (a1.size : Int) then (if (a1.size : Int) ≤ (a0.size : Int) then (some (a0.extract ((a1.size : Int) : Int).toNat a0.size, true)) else (none)) else (none)) = some (r1, r2) := by rw [if_pos rfl] at H; exact H
    clear H
    have H := H1
    clear H1
    by_cases c5 : 0 ≤ (a1.size : Int)
    · rw [if_pos c5] at H
      have c5b0 := eq_true c5
      have c5b1 : decide (0 ≤ (a1.size : Int)) = true := decide_eq_true c5
      clear c5
      by_cases c6 : (a1.size : Int) ≤ (a0.size : Int)
      · rw [if_pos c6] at H
        have c6b0 := eq_true c6
        have c6b1 : decide ((a1.size : Int) ≤ (a0.size : Int)) = true := decide_eq_true c6
        clear c6
        simp only [Option.some.injEq, Prod.mk.injEq] at H
        obtain ⟨rfl, rfl⟩ := H
        go_enter Tryz.func110, Tryz.ntmps110
        go_wp2_with (first | ((with_reducible refine gate_callee (f := 86) rfl ?_); refine goesL_ (some 8) rfl rfl Tryz.func86 (by kernel_rfl) rfl #[.string a0, .string a1] rfl (by (try simp only [List.map_toArray, List.map_cons, List.map_nil]); first | done | rfl | (simp only [List.length_drop, List.length_take]; rfl)) ?_; (with_reducible refine (stringslite_HasPrefix.calls a0 a1 true _ A3.out).mono ?_); rintro e w' ⟨rfl, ⟨nd, rfl⟩⟩; refine ⟨_, rfl, ?_⟩))
        go_ret2
        exact ⟨by first | rfl | (simp; done) | (simp [*]; done) | (simp [xbne_nil, xbeq_nil]; done), by repeat (first | exact Drawn0.refl _ | apply Drawn0.step)⟩
      · rw [if_neg c6] at H
        exact absurd H (by simp)
    · rw [if_neg c5] at H
      exact absurd H (by simp)
  · replace c4 := Bool.eq_false_iff.mpr c4
    subst c4
    have H1 : (some (a0, false)) = some (r1, r2) := by rw [if_neg (show ¬ (false = true) by decide)] at H; exact H
    clear H
    have H := H1
    clear H1
    simp only [Option.some.injEq, Prod.mk.injEq] at H
    obtain ⟨rfl, rfl⟩ := H
    go_enter Tryz.func110, Tryz.ntmps110
    go_wp2_with (first | ((with_reducible refine gate_callee (f := 86) rfl ?_); refine goesL_ (some 8) rfl rfl Tryz.func86 (by kernel_rfl) rfl #[.string a0, .string a1] rfl (by (try simp only [List.map_toArray, List.map_cons, List.map_nil]); first | done | rfl | (simp only [List.length_drop, List.length_take]; rfl)) ?_; (with_reducible refine (stringslite_HasPrefix.calls a0 a1 false _ A3.out).mono ?_); rintro e w' ⟨rfl, ⟨nd, rfl⟩⟩; refine ⟨_, rfl, ?_⟩))
    go_ret2
    exact ⟨by first | rfl | (simp; done) | (simp [*]; done) | (simp [xbne_nil, xbeq_nil]; done), by repeat (first | exact Drawn0.refl _ | apply Drawn0.step)⟩
def strings_CutPrefix.f (a0 : ByteArray) (a1 : ByteArray) : Option (ByteArray × Bool) := (stringslite_CutPrefix.f a0 a1).bind fun bt103 => (some (bt103.1, bt103.2))
set_option maxHeartbeats 8000000 in
set_option maxRecDepth 100000 in
theorem strings_CutPrefix.calls (a0 : ByteArray) (a1 : ByteArray) (r1 : ByteArray) (r2 : Bool) (w : World) (h : strings_CutPrefix.f a0 a1 = some (r1, r2)) :
    Calls Tryz.prog 88 #[.string a0, .string a1] w fun e w' => e = .returned (.tuple #[.string r1, .bool r2]) ∧ Drawn0 w w' := by
  have H : ((stringslite_CutPrefix.f a0 a1).bind fun bt103 => (some (bt103.1, bt103.2))) = some (r1, r2) := h
  clear h
  replace H := Option.bind_eq_some_iff.mp H
  obtain ⟨⟨t103, t104⟩, A30, H⟩ := H
  replace H : (some (t103, t104)) = some (r1, r2) := H
  have A3 := Aside0.mk A30
  clear A30
  simp only [Option.some.injEq, Prod.mk.injEq] at H
  obtain ⟨rfl, rfl⟩ := H
  go_enter Tryz.func88, Tryz.ntmps88
  go_wp2_with (first | ((with_reducible refine gate_callee (f := 110) rfl ?_); refine goesL_ (some 8) rfl rfl Tryz.func110 (by kernel_rfl) rfl #[.string a0, .string a1] rfl (by (try simp only [List.map_toArray, List.map_cons, List.map_nil]); first | done | rfl | (simp only [List.length_drop, List.length_take]; rfl)) ?_; (with_reducible refine (stringslite_CutPrefix.calls a0 a1 t103 t104 _ A3.out).mono ?_); rintro e w' ⟨rfl, ⟨nd, rfl⟩⟩; refine ⟨_, rfl, ?_⟩))
  go_ret2
  exact ⟨by first | rfl | (simp; done) | (simp [*]; done) | (simp [xbne_nil, xbeq_nil]; done), by repeat (first | exact Drawn0.refl _ | apply Drawn0.step)⟩
def tag_own.g (t : ByteArray) (b : Bool) : Bool := b && !(t.toList == ([] : List UInt8)) && decide (t.size ≤ 40) && t.data.toList.all Own.nameByte
def tag_own.f (a0 : ByteArray) : Option (Bool) := (strings_CutPrefix.f a0 (⟨#[33]⟩ : ByteArray)).bind fun b => some (tag_own.g b.1 b.2)
set_option maxHeartbeats 2000000 in
theorem tag_own.calls (a0 : ByteArray) (r : Bool) (w : World) (h : tag_own.f a0 = some r) :
    Calls Tryz.prog 72 #[.string a0] w fun e w' => e = .returned (.bool r) ∧ Below w.heap.size w w' := by
  unfold tag_own.f at h
  obtain ⟨⟨t, b⟩, A20, H⟩ := Option.bind_eq_some_iff.mp h
  have A2 := Aside0.mk A20
  clear A20 h
  obtain rfl := Option.some.inj H
  clear H
  cases b with
  | false =>
    go_enter Tryz.func72, Tryz.ntmps72
    go_wp2_with ((go_at_call 88; (with_reducible refine (strings_CutPrefix.calls a0 (⟨#[33]⟩ : ByteArray) t false _ A2.out).mono ?_); rintro e w' ⟨rfl, ⟨nd, rfl⟩⟩))
    go_ret
    exact ⟨rfl, pw_below_drewN (Below.refl _ _) _⟩
  | true =>
    by_cases c1 : t.toList = ([] : List UInt8)
    · have c1b0 : (t.toList == ([] : List UInt8)) = true := beq_iff_eq.mpr c1
      have c1b1 : (t.toList != ([] : List UInt8)) = false := bne_eq_false_iff_eq.mpr c1
      have hg : Aside0 (tag_own.g t true = false) := ⟨by unfold tag_own.g; rw [c1b0]; rfl⟩
      clear c1
      go_enter Tryz.func72, Tryz.ntmps72
      go_wp2_with ((go_at_call 88; (with_reducible refine (strings_CutPrefix.calls a0 (⟨#[33]⟩ : ByteArray) t true _ A2.out).mono ?_); rintro e w' ⟨rfl, ⟨nd, rfl⟩⟩))
      go_ret
      exact ⟨by rw [hg.out]; rfl, pw_below_drewN (Below.refl _ _) _⟩
    · have c1b0 : (t.toList == ([] : List UInt8)) = false := beq_eq_false_iff_ne.mpr c1
      have c1b1 : (t.toList != ([] : List UInt8)) = true := bne_iff_ne.mpr c1
      by_cases c2 : t.size ≤ 40
      · have c2b0 : decide ((t.size : Int) ≤ 40) = true := decide_eq_true (by omega)
        have c2b1 : decide (t.size ≤ 40) = true := decide_eq_true c2
        have hg : Aside0 (tag_own.g t true = !decide (0 ≤ Lib.idxFunc (fun r => !Own.namedN r) true t)) := ⟨by unfold tag_own.g; rw [c1b0, c2b1, Own.contains_eq]; simp⟩
        clear c1 c2
        generalize hI : decide (0 ≤ Lib.idxFunc (fun r => !Own.namedN r) true t) = I at hg
        have hI2 := Aside0.mk hI
        clear hI
        go_enter Tryz.func72, Tryz.ntmps72
        go_wp2_with (first | (go_at_call 88; (with_reducible refine (strings_CutPrefix.calls a0 (⟨#[33]⟩ : ByteArray) t true _ A2.out).mono ?_); rintro e w' ⟨rfl, ⟨nd, rfl⟩⟩) | (go_at_call 70; (with_reducible refine (Own.contains_calls t _).mono ?_); rintro e w' ⟨rfl, hb⟩))
        go_ret
        exact ⟨by rw [hg.out, hI2.out]; rfl, (pw_below_drewN (Below.refl _ _) _).trans hb⟩
      · have c2b0 : decide ((t.size : Int) ≤ 40) = false := decide_eq_false (by omega)
        have c2b1 : decide (t.size ≤ 40) = false := decide_eq_false c2
        have hg : Aside0 (tag_own.g t true = false) := ⟨by unfold tag_own.g; rw [c1b0, c2b1]; rfl⟩
        clear c1 c2
        go_enter Tryz.func72, Tryz.ntmps72
        go_wp2_with ((go_at_call 88; (with_reducible refine (strings_CutPrefix.calls a0 (⟨#[33]⟩ : ByteArray) t true _ A2.out).mono ?_); rintro e w' ⟨rfl, ⟨nd, rfl⟩⟩))
        go_ret
        exact ⟨by rw [hg.out]; rfl, pw_below_drewN (Below.refl _ _) _⟩
def tag_Right.f (a0 : ByteArray) : Option (Bool) := (tag_Core.f a0).bind fun t105 => (if t105 = true then (some true) else ((tag_own.f a0).bind fun t106 => (some t106)))
set_option maxHeartbeats 8000000 in
set_option maxRecDepth 100000 in
theorem tag_Right.calls (a0 : ByteArray) (r : Bool) (w : World) (h : tag_Right.f a0 = some r) :
    Calls Tryz.prog 40 #[.string a0] w fun e w' => e = .returned (.bool r) ∧ Below w.heap.size w w' := by
  have HB := Aside0.mk (Below.refl w.heap.size w)
  have H : ((tag_Core.f a0).bind fun t105 => (if t105 = true then (some true) else ((tag_own.f a0).bind fun t106 => (some t106)))) = some r := h
  clear h
  replace H := Option.bind_eq_some_iff.mp H
  obtain ⟨t105, A20, H⟩ := H
  replace H : (if t105 = true then (some true) else ((tag_own.f a0).bind fun t106 => (some t106))) = some r := H
  have A2 := Aside0.mk A20
  clear A20
  by_cases c3 : t105 = true
  · subst c3
    have H1 : (some true) = some r := by rw [if_pos rfl] at H; exact H
    clear H
    have H := H1
    clear H1
    obtain rfl := Option.some.inj H
    go_enter Tryz.func40, Tryz.ntmps40
    go_wp2_with (first | ((with_reducible refine gate_callee (f := 71) rfl ?_); refine goesL_ (some 4) rfl rfl Tryz.func71 (by kernel_rfl) rfl #[.string a0] rfl (by (try simp only [List.map_toArray, List.map_cons, List.map_nil]); first | done | rfl | (simp only [List.length_drop, List.length_take]; rfl)) ?_; (with_reducible refine (tag_Core.calls a0 true _ A2.out).mono ?_); rintro e w' ⟨rfl, ⟨nd, rfl⟩⟩; refine ⟨_, rfl, ?_⟩))
    go_ret
    exact ⟨by first | rfl | (simp [errW_none, errW_some] <;> rfl) | (simp [*, errW_none, errW_some] <;> rfl), by repeat (first | (with_reducible first | exact HB.out | apply below_alloc | apply pw_below_drewN | apply below_drew1) | exact HB.out)⟩
  · replace c3 := Bool.eq_false_iff.mpr c3
    subst c3
    have H1 : ((tag_own.f a0).bind fun t106 => (some t106)) = some r := by rw [if_neg (show ¬ (false = true) by decide)] at H; exact H
    clear H
    have H := H1
    clear H1
    replace H := Option.bind_eq_some_iff.mp H
    obtain ⟨t106, A40, H⟩ := H
    replace H : (some t106) = some r := H
    have A4 := Aside0.mk A40
    clear A40
    obtain rfl := Option.some.inj H
    go_enter Tryz.func40, Tryz.ntmps40
    go_wp2_with (first | ((with_reducible refine gate_callee (f := 71) rfl ?_); refine goesL_ (some 4) rfl rfl Tryz.func71 (by kernel_rfl) rfl #[.string a0] rfl (by (try simp only [List.map_toArray, List.map_cons, List.map_nil]); first | done | rfl | (simp only [List.length_drop, List.length_take]; rfl)) ?_; (with_reducible refine (tag_Core.calls a0 false _ A2.out).mono ?_); rintro e w' ⟨rfl, ⟨nd, rfl⟩⟩; refine ⟨_, rfl, ?_⟩) | (go_at_call 72; (with_reducible refine (tag_own.calls a0 t106 _ A4.out).mono ?_); rintro e w5 ⟨rfl, hb⟩; have n0_ := Aside0.mk (below_step (by repeat (first | (with_reducible first | exact HB.out | apply below_alloc | apply pw_below_drewN | apply below_drew1) | exact HB.out)) hb); clear HB; have HB := n0_; clear n0_; (try clear hb); (try clear hb2); (try clear hk); (try clear hi)))
    go_ret
    exact ⟨by first | rfl | (simp [errW_none, errW_some] <;> rfl) | (simp [*, errW_none, errW_some] <;> rfl), by repeat (first | (with_reducible first | exact HB.out | apply below_alloc | apply pw_below_drewN | apply below_drew1) | exact HB.out)⟩
end Go.Proofs.YtgnmjaacnmkgnaaGreatDoor.T
end
section
namespace Go.Proofs.YtgnmjaacnmkgnaaGreatDoor.T
open Go.RowKit Go.Proofs.YtgnmjaacnmkgnaaGreatDoorW.PrintWords Go.Proofs.YtgnmjaacnmkgnaaGreatDoorW.PrintLast Go.Proofs.YtgnmjaacnmkgnaaGreatDoorW.PrintMore
attribute [local go_sem] max2_int min2_int max_two min_two
set_option linter.unusedVariables false
set_option linter.unusedSimpArgs false
def lex_Name.g (t : ByteArray) : Bool := !(t.toList == ([] : List UInt8)) && decide (t.size ≤ 40) && t.data.toList.all Nam.nameByte
def lex_Name.f (a0 : ByteArray) : Option (Bool) := some (lex_Name.g a0)
set_option maxHeartbeats 2000000 in
theorem lex_Name.calls (a0 : ByteArray) (r : Bool) (w : World) (h : lex_Name.f a0 = some r) :
    Calls Tryz.prog 39 #[.string a0] w fun e w' => e = .returned (.bool r) ∧ Below w.heap.size w w' := by
  unfold lex_Name.f at h
  obtain rfl := Option.some.inj h
  clear h
  by_cases c1 : a0.toList = ([] : List UInt8)
  · have c1b0 : (a0.toList == ([] : List UInt8)) = true := beq_iff_eq.mpr c1
    have c1b1 : (a0.toList != ([] : List UInt8)) = false := bne_eq_false_iff_eq.mpr c1
    have hg : Aside0 (lex_Name.g a0 = false) := ⟨by unfold lex_Name.g; rw [c1b0]; rfl⟩
    clear c1
    go_enter Tryz.func39, Tryz.ntmps39
    go_wp2
    go_ret
    exact ⟨by rw [hg.out]; rfl, pw_below_drewN (Below.refl _ _) 0⟩
  · have c1b0 : (a0.toList == ([] : List UInt8)) = false := beq_eq_false_iff_ne.mpr c1
    have c1b1 : (a0.toList != ([] : List UInt8)) = true := bne_iff_ne.mpr c1
    by_cases c2 : a0.size ≤ 40
    · have c2b0 : decide ((a0.size : Int) ≤ 40) = true := decide_eq_true (by omega)
      have c2b1 : decide (a0.size ≤ 40) = true := decide_eq_true c2
      have hg : Aside0 (lex_Name.g a0 = !decide (0 ≤ Lib.idxFunc (fun r => !Nam.namedN r) true a0)) := ⟨by unfold lex_Name.g; rw [c1b0, c2b1, Nam.contains_eq]; simp⟩
      clear c1 c2
      generalize hI : decide (0 ≤ Lib.idxFunc (fun r => !Nam.namedN r) true a0) = I at hg
      have hI2 := Aside0.mk hI
      clear hI
      go_enter Tryz.func39, Tryz.ntmps39
      go_wp2_with (go_at_call 70; (with_reducible refine (Nam.contains_calls a0 _).mono ?_); rintro e w' ⟨rfl, hb⟩)
      go_ret
      exact ⟨by rw [hg.out, hI2.out]; rfl, hb⟩
    · have c2b0 : decide ((a0.size : Int) ≤ 40) = false := decide_eq_false (by omega)
      have c2b1 : decide (a0.size ≤ 40) = false := decide_eq_false c2
      have hg : Aside0 (lex_Name.g a0 = false) := ⟨by unfold lex_Name.g; rw [c1b0, c2b1]; rfl⟩
      clear c1 c2
      go_enter Tryz.func39, Tryz.ntmps39
      go_wp2
      go_ret
      exact ⟨by rw [hg.out]; rfl, pw_below_drewN (Below.refl _ _) 0⟩
def utf8_ValidRune.j0 : Nat → Int → Bool → Option (Bool)
  | 0, _, _ => none
  | k + 1, x0, x3 => if x3 = true then (some true) else (if 57343 < x0 then (if x0 ≤ 1114111 then (some true) else (some false)) else (some false))
def utf8_ValidRune.f (k : Nat) (a0 : Int) : Option (Bool) := if 0 ≤ a0 then (utf8_ValidRune.j0 k a0 (decide (a0 < 55296))) else (utf8_ValidRune.j0 k a0 false)
set_option maxHeartbeats 8000000 in
set_option maxRecDepth 100000 in
theorem utf8_ValidRune.calls (k : Nat) (a0 : Int) (r : Bool) (w : World) (h : utf8_ValidRune.f k a0 = some r) :
    Calls Tryz.prog 97 #[.int .i32 a0] w fun e w' => e = .returned (.bool r) ∧ Drawn0 w w' := by
  have H : (if 0 ≤ a0 then (utf8_ValidRune.j0 k a0 (decide (a0 < 55296))) else (utf8_ValidRune.j0 k a0 false)) = some r := h
  clear h
  have HC2 := Aside0.mk H
  clear H
  go_enter Tryz.func97, Tryz.ntmps97
  go_upto_region 1 with (fail)
  go_cut [3] (fun v3 wc => ∃ (kq : Nat) (x3_1 : Bool), v3 = .bool x3_1 ∧ Aside0 (utf8_ValidRune.j0 kq a0 x3_1 = some r) ∧ Aside0 (kq ≤ k) ∧ Drawn0 w wc)
  case first =>
    have H := HC2.out
    clear HC2
    by_cases c3 : 0 ≤ a0
    · rw [if_pos c3] at H
      have c3b0 : decide (0 ≤ a0) = true := decide_eq_true c3
      clear c3
      (first | rw [c3b0] | (simp only [i64_w, i32_w]; rw [c3b0]) | skip)
      have H' := Aside0.mk H
      clear H
      go_wp2
      go_meet
      case rel => exact ⟨_, (decide (a0 < 55296)), (by first | rfl | (simp; done) | (simp [*]; done) | (simp [xbne_nil, xbeq_nil]; done)), H', ⟨by first | omega | exact Nat.le_refl _⟩, by repeat (first | exact Drawn0.refl _ | apply Drawn0.step)⟩
    · rw [if_neg c3] at H
      have c3b0 : decide (0 ≤ a0) = false := decide_eq_false c3
      clear c3
      (first | rw [c3b0] | (simp only [i64_w, i32_w]; rw [c3b0]) | skip)
      have H' := Aside0.mk H
      clear H
      go_wp2
      go_meet
      case rel => exact ⟨_, (false), (by first | rfl | (simp; done) | (simp [*]; done) | (simp [xbne_nil, xbeq_nil]; done)), H', ⟨by first | omega | exact Nat.le_refl _⟩, by repeat (first | exact Drawn0.refl _ | apply Drawn0.step)⟩
  case rest =>
    clear HC2
    try clear p2
    try clear c3
    try clear c3b0
    obtain ⟨kq, x3_1, rfl, HA, HJ1, ⟨mc1, rfl⟩⟩ := hcut
    cases kq with
    | zero => exact absurd HA.out (by simp [utf8_ValidRune.j0])
    | succ kj1 =>
      have H := HA.out
      clear HA
      simp only [utf8_ValidRune.j0] at H
      by_cases c4 : x3_1 = true
      · subst c4
        have H1 : (some true) = some r := by rw [if_pos rfl] at H; exact H
        clear H
        have H := H1
        clear H1
        obtain rfl := Option.some.inj H
        go_wp2
        go_ret
        exact ⟨by first | rfl | (simp; done) | (simp [*]; done) | (simp [xbne_nil, xbeq_nil]; done), by repeat (first | exact Drawn0.refl _ | apply Drawn0.step)⟩
      · replace c4 := Bool.eq_false_iff.mpr c4
        subst c4
        have H1 : (if 57343 < a0 then (if a0 ≤ 1114111 then (some true) else (some false)) else (some false)) = some r := by rw [if_neg (show ¬ (false = true) by decide)] at H; exact H
        clear H
        have H := H1
        clear H1
        by_cases c5 : 57343 < a0
        · rw [if_pos c5] at H
          have c5b0 : decide (57343 < a0) = true := decide_eq_true c5
          clear c5
          by_cases c6 : a0 ≤ 1114111
          · rw [if_pos c6] at H
            have c6b0 : decide (a0 ≤ 1114111) = true := decide_eq_true c6
            clear c6
            obtain rfl := Option.some.inj H
            go_wp2
            go_ret
            exact ⟨by first | rfl | (simp; done) | (simp [*]; done) | (simp [xbne_nil, xbeq_nil]; done), by repeat (first | exact Drawn0.refl _ | apply Drawn0.step)⟩
          · rw [if_neg c6] at H
            have c6b0 : decide (a0 ≤ 1114111) = false := decide_eq_false c6
            clear c6
            obtain rfl := Option.some.inj H
            go_wp2
            go_ret
            exact ⟨by first | rfl | (simp; done) | (simp [*]; done) | (simp [xbne_nil, xbeq_nil]; done), by repeat (first | exact Drawn0.refl _ | apply Drawn0.step)⟩
        · rw [if_neg c5] at H
          have c5b0 : decide (57343 < a0) = false := decide_eq_false c5
          clear c5
          obtain rfl := Option.some.inj H
          go_wp2
          go_ret
          exact ⟨by first | rfl | (simp; done) | (simp [*]; done) | (simp [xbne_nil, xbeq_nil]; done), by repeat (first | exact Drawn0.refl _ | apply Drawn0.step)⟩
end Go.Proofs.YtgnmjaacnmkgnaaGreatDoor.T
end
section
namespace Go.Proofs.YtgnmjaacnmkgnaaGreatDoor.X
open Go.RowKit Go.Shelf Go.Proofs
set_option linter.unusedVariables false
set_option linter.unusedSimpArgs false
namespace Evt
theorem core_some (s : ByteArray) : ∃ b, T.tag_Core.f s = some b := by
  unfold T.tag_Core.f T.tag_plain.f
  by_cases h1 : s.toList = ([115, 101, 113] : List UInt8)
  · rw [if_pos h1]; exact ⟨_, rfl⟩
  rw [if_neg h1]
  by_cases h2 : s.toList = ([109, 97, 112] : List UInt8)
  · rw [if_pos h2]; exact ⟨_, rfl⟩
  rw [if_neg h2]
  by_cases h3 : s.toList = ([115, 116, 114] : List UInt8)
  · rw [if_pos h3]; exact ⟨_, rfl⟩
  rw [if_neg h3]
  split
  · exact ⟨_, rfl⟩
  · split
    · exact ⟨_, rfl⟩
    · split <;> exact ⟨_, rfl⟩
theorem pre_some (s p : ByteArray) : ∃ b, T.strings_CutPrefix.f s p = some b := by
  unfold T.strings_CutPrefix.f T.stringslite_CutPrefix.f T.stringslite_HasPrefix.f
  by_cases h : (s.size : Int) ≥ (p.size : Int)
  · rw [if_pos h, if_pos (by omega), if_pos h, Option.bind_some]
    split
    · first | exact ⟨_, rfl⟩ | (rw [if_pos (by omega)]; exact ⟨_, rfl⟩)
    · exact ⟨_, rfl⟩
  · rw [if_neg h, Option.bind_some, if_neg (by decide)]; exact ⟨_, rfl⟩
theorem own_some (s : ByteArray) : ∃ b, T.tag_own.f s = some b := by
  obtain ⟨b, hb⟩ := pre_some s ⟨#[33]⟩
  unfold T.tag_own.f; rw [hb]; exact ⟨_, rfl⟩
def tagR (s : ByteArray) : Bool := (T.tag_Right.f s).getD false
theorem tagR_eq (s : ByteArray) : T.tag_Right.f s = some (tagR s) := by
  obtain ⟨b, hb⟩ : ∃ b, T.tag_Right.f s = some b := by
    obtain ⟨c, hc⟩ := core_some s
    obtain ⟨o, ho⟩ := own_some s
    unfold T.tag_Right.f
    rw [hc, ho, Option.bind_some, Option.bind_some]
    split <;> exact ⟨_, rfl⟩
  unfold tagR; rw [hb]; rfl
def plainE (x : Ev) : Bool := x.anchor.toList.isEmpty && (x.tag.toList.isEmpty && (x.text.toList.isEmpty && !x.plain))
def rightE (x : Ev) : Bool :=
  bif (decide (x.kind < 0) || decide (x.kind > 7)) || !(Lib.validD x.text.data.toList) then false
  else bif x.kind == 7 then ((T.lex_Name.g x.anchor && x.tag.toList.isEmpty) && x.text.toList.isEmpty) && !x.plain
  else bif !(isNode x.kind) then plainE x
  else bif !(x.kind == 6) && (!(x.text.toList.isEmpty) || x.plain) then false
  else (x.anchor.toList.isEmpty || T.lex_Name.g x.anchor) && (x.tag.toList.isEmpty || tagR x.tag)
end Evt
end Go.Proofs.YtgnmjaacnmkgnaaGreatDoor.X
end
section
namespace Go.Proofs.YtgnmjaacnmkgnaaGreatDoor.X
open Go.RowKit Go.Shelf Go.Proofs Go.Proofs.YtgnmjaacnmkgnaaGreatDoorW.PrintWords Go.Proofs.YtgnmjaacnmkgnaaGreatDoorW.PrintLast Go.Proofs.YtgnmjaacnmkgnaaGreatDoorW.PrintMore
set_option linter.unusedVariables false
set_option linter.unusedSimpArgs false
attribute [local go_sem] max2_int min2_int max_two min_two
set_option maxHeartbeats 4000000 in
set_option maxRecDepth 100000 in
theorem Evt.node_calls (x : Evt.Ev) (w : World) : Calls Tryz.prog 27 #[.agg #[.int .i64 x.kind, .string x.anchor, .string x.tag, .string x.text, .bool x.plain]] w fun e w' => e = .returned (.bool (Evt.isNode x.kind)) ∧ Below w.heap.size w w' := by
 refine Eng.enter Tryz.func27 rfl fun act0 d0 s0 v0 => ?_
 have s0 : act0.tmps.size = 16 := s0
 have h0_0 : act0.eval (.tmp 0) = .agg #[.int .i64 x.kind, .string x.anchor, .string x.tag, .string x.text, .bool x.plain] := v0 0 (by simp)
 clear v0
 have bl0 : Below w.heap.size w w := Below.refl _ _
 refine wp_seq ?_
 refine Eng.regionS (Eng.still [fun u_ => True, fun u_ => u_ = .bool false]) (fun i => ([.alloc 29 #[.int .i64 x.kind, .string x.anchor, .string x.tag, .string x.text, .bool x.plain], .plain] : List Eng.Kind).getD i .plain) 2 0 16 s0 rfl (by kernel_rfl) (Eng.still_stable _) (Or.inr (Eng.still_any _)) ?_ ?_
 ·refine .cons (fun _ => ?_) (.cons (fun _ => ?_) (.nil))
  ·refine Eng.made rfl (by simp) rfl (fun a w' hd ho => ?_) (fun _ _ => trivial)
   exact Eng.run_box rfl ((ho 0 (by kernel_rfl)).trans h0_0)
  ·exact Eng.plain rfl rfl fun a w' H => Eng.vr rfl (Eng.run_assign rfl (rfl : a.eval (.const (.bool false)) = .bool false))
 intro act1 w1 T
 obtain ⟨g1_1, h1_1, rg1_1, lg1_1_1, kg1_1_1⟩ := T.al 0 1 _ _ rfl rfl rfl (by kernel_rfl)
 have d1 := T.defers.trans d0
 have s1 := T.size.trans s0
 have bl1 := bl0.trans (T.below.mono bl0.size)
 clear T
 refine Eng.tail_nil ?_
 first | show Code.wp Tryz.prog _ _ _ _ | skip
 refine wp_seq ?_
 obtain ⟨q5, Bq5⟩ : ∃ b : Bool, b = (x.kind == 2) := ⟨_, rfl⟩
 obtain ⟨q9, Bq9⟩ : ∃ b : Bool, b = (x.kind == 4) := ⟨_, rfl⟩
 obtain ⟨q10, Bq10⟩ : ∃ b : Bool, b = (q5 || q9) := ⟨_, rfl⟩
 obtain ⟨q14, Bq14⟩ : ∃ b : Bool, b = (x.kind == 6) := ⟨_, rfl⟩
 obtain ⟨q15, Bq15⟩ : ∃ b : Bool, b = (q10 || q14) := ⟨_, rfl⟩
 refine Eng.regionS (Eng.still [fun u_ => u_ = .pointer (some ⟨g1_1, 0, none⟩), fun u_ => u_ = .int .i64 x.kind, fun u_ => u_ = .bool q5, fun u_ => u_ = .bool q5, fun u_ => u_ = bif (q5 == false) then (.pointer (some ⟨g1_1, 0, none⟩)) else undef, fun u_ => u_ = bif (q5 == false) then (.int .i64 x.kind) else undef, fun u_ => u_ = bif (q5 == false) then (.bool q9) else undef, fun u_ => u_ = .bool q10, fun u_ => u_ = .bool q10, fun u_ => u_ = bif (q10 == false) then (.pointer (some ⟨g1_1, 0, none⟩)) else undef, fun u_ => u_ = bif (q10 == false) then (.int .i64 x.kind) else undef, fun u_ => u_ = bif (q10 == false) then (.bool q14) else undef, fun u_ => u_ = .bool q15, fun u_ => u_ = .bool q15]) (fun _ => .plain) 14 0 16 s1 rfl (by kernel_rfl) (Eng.still_stable _) (Or.inr (Eng.still_any _)) ?_ ?_
 ·refine .cons (fun _ => ?_) (.cons (fun _ => ?_) (.cons (fun _ => ?_) (.cons (fun _ => ?_) (.cons (fun _ => ?_) (.cons (fun _ => ?_) (.cons (fun _ => ?_) (.cons (fun _ => ?_) (.cons (fun _ => ?_) (.cons (fun _ => ?_) (.cons (fun _ => ?_) (.cons (fun _ => ?_) (.cons (fun _ => ?_) (.cons (fun _ => ?_) (.nil))))))))))))))
  ·exact Eng.plain rfl rfl fun a w' H => Eng.vr rfl (Eng.run_fieldb rfl Tryz.underlying29 0 (by kernel_rfl) ((H.kept 1 (by kernel_rfl)).trans h1_1))
  ·exact Eng.plain rfl rfl fun a w' H => Eng.vr rfl (Eng.run_loadb rfl (H.dep 0 3 (by kernel_rfl) rfl) ((H.below.block _ lg1_1_1).trans kg1_1_1) rfl (by kernel_rfl))
  ·refine Eng.plain rfl rfl fun a w' H => ?_
   refine Eng.vr (v := .bool (x.kind == 2)) (by show _ = Value.bool q5; rw [Bq5]) ?_
   have e0 : a.eval (.tmp 4) = .int .i64 x.kind := (H.dep 1 4 (by kernel_rfl) rfl)
   have e1 : a.eval (.const (.int .i64 2)) = .int .i64 2 := (rfl : a.eval (.const (.int .i64 2)) = .int .i64 2)
   simp only [execOp, resolve, List.map_toArray, List.map_cons, List.map_nil, e0, e1]
   go_simp
   all_goals first | rfl | (simp; done) | (rw [Bool.eq_iff_iff]; simp; done) | omega | (split <;> first | (simp_all; done) | (split <;> simp_all; done)) | skip
  ·exact Eng.plain rfl rfl fun a w' H => Eng.vr rfl (Eng.run_move rfl (H.dep 2 5 (by kernel_rfl) rfl))
  ·refine Eng.guarded1 (j := 3) (d := 6) (b := q5) rfl rfl (by kernel_rfl) rfl (fun v w h => h) (fun hG w => Eng.off hG) fun hG a w' H => ?_
   exact Eng.val (w1 := w') (v := .pointer (some ⟨g1_1, 0, none⟩)) (Eng.run_fieldb rfl Tryz.underlying29 0 (by kernel_rfl) ((H.kept 1 (by kernel_rfl)).trans h1_1)) (Below.refl _ _) (Eng.off' hG rfl)
  ·refine Eng.guarded1 (j := 3) (d := 6) (b := q5) rfl rfl (by kernel_rfl) rfl (fun v w h => h) (fun hG w => Eng.off hG) fun hG a w' H => ?_
   exact Eng.val (w1 := w') (v := .int .i64 x.kind) (Eng.run_loadb rfl (Eng.on (H.dep 4 7 (by kernel_rfl) rfl) hG) ((H.below.block _ lg1_1_1).trans kg1_1_1) rfl (by kernel_rfl)) (Below.refl _ _) (Eng.off' hG rfl)
  ·refine Eng.guarded1 (j := 3) (d := 6) (b := q5) rfl rfl (by kernel_rfl) rfl (fun v w h => h) (fun hG w => Eng.off hG) fun hG a w' H => ?_
   refine Eng.vr (v := .bool (x.kind == 4)) (Eng.off' hG (by rw [Bq9])) ?_
   have e0 : a.eval (.tmp 8) = .int .i64 x.kind := (Eng.on (H.dep 5 8 (by kernel_rfl) rfl) hG)
   have e1 : a.eval (.const (.int .i64 4)) = .int .i64 4 := (rfl : a.eval (.const (.int .i64 4)) = .int .i64 4)
   simp only [execOp, resolve, List.map_toArray, List.map_cons, List.map_nil, e0, e1]
   go_simp
   all_goals first | rfl | (simp; done) | (rw [Bool.eq_iff_iff]; simp; done) | omega | (split <;> first | (simp_all; done) | (split <;> simp_all; done)) | skip
  ·exact Eng.plain rfl rfl fun a w' H => Eng.vr (v := .bool (q5 || q9)) (by show _ = Value.bool q10; rw [Bq10]) (Eng.run_or rfl rfl (G := true) (H.dep 3 6 (by kernel_rfl) rfl) (fun hb => (Eng.on (H.dep 6 9 (by kernel_rfl) rfl) (Eng.mk1 hb))))
  ·exact Eng.plain rfl rfl fun a w' H => Eng.vr rfl (Eng.run_move rfl (H.dep 7 10 (by kernel_rfl) rfl))
  ·refine Eng.guarded1 (j := 8) (d := 11) (b := q10) rfl rfl (by kernel_rfl) rfl (fun v w h => h) (fun hG w => Eng.off hG) fun hG a w' H => ?_
   exact Eng.val (w1 := w') (v := .pointer (some ⟨g1_1, 0, none⟩)) (Eng.run_fieldb rfl Tryz.underlying29 0 (by kernel_rfl) ((H.kept 1 (by kernel_rfl)).trans h1_1)) (Below.refl _ _) (Eng.off' hG rfl)
  ·refine Eng.guarded1 (j := 8) (d := 11) (b := q10) rfl rfl (by kernel_rfl) rfl (fun v w h => h) (fun hG w => Eng.off hG) fun hG a w' H => ?_
   exact Eng.val (w1 := w') (v := .int .i64 x.kind) (Eng.run_loadb rfl (Eng.on (H.dep 9 12 (by kernel_rfl) rfl) hG) ((H.below.block _ lg1_1_1).trans kg1_1_1) rfl (by kernel_rfl)) (Below.refl _ _) (Eng.off' hG rfl)
  ·refine Eng.guarded1 (j := 8) (d := 11) (b := q10) rfl rfl (by kernel_rfl) rfl (fun v w h => h) (fun hG w => Eng.off hG) fun hG a w' H => ?_
   refine Eng.vr (v := .bool (x.kind == 6)) (Eng.off' hG (by rw [Bq14])) ?_
   have e0 : a.eval (.tmp 13) = .int .i64 x.kind := (Eng.on (H.dep 10 13 (by kernel_rfl) rfl) hG)
   have e1 : a.eval (.const (.int .i64 6)) = .int .i64 6 := (rfl : a.eval (.const (.int .i64 6)) = .int .i64 6)
   simp only [execOp, resolve, List.map_toArray, List.map_cons, List.map_nil, e0, e1]
   go_simp
   all_goals first | rfl | (simp; done) | (rw [Bool.eq_iff_iff]; simp; done) | omega | (split <;> first | (simp_all; done) | (split <;> simp_all; done)) | skip
  ·exact Eng.plain rfl rfl fun a w' H => Eng.vr (v := .bool (q10 || q14)) (by show _ = Value.bool q15; rw [Bq15]) (Eng.run_or rfl rfl (G := true) (H.dep 8 11 (by kernel_rfl) rfl) (fun hb => (Eng.on (H.dep 11 14 (by kernel_rfl) rfl) (Eng.mk1 hb))))
  ·exact Eng.plain rfl rfl fun a w' H => Eng.vr rfl (Eng.run_assign rfl (H.dep 12 15 (by kernel_rfl) rfl))
 intro act2 w2 T
 have h2_2 : act2.eval (.tmp 2) = .bool q15 := T.done 13 2 rfl rfl
 have d2 := T.defers.trans d1
 have bl2 := bl1.trans (T.below.mono bl1.size)
 clear T
 refine Eng.tail_nil ?_
 first | show Code.wp Tryz.prog _ _ _ _ | skip
 refine wp_ret ?_
 repeat (first | refine Eng.in_ret ?_ | refine Eng.then_ret ?_)
 exact Eng.ret1 rfl d2 (h2_2.trans (by rw [Bq15, Bq14, Bq10, Bq9, Bq5]; rfl)) ⟨rfl, bl2⟩
end Go.Proofs.YtgnmjaacnmkgnaaGreatDoor.X
end
