/- Printed by a program of ours (wip/tools) out of the translation: each function as a plain Lean function, and a proof that the call answers so. -/
import Derived.Test.YtdbkefgdeenjoaaDoorX0
namespace Go.Proofs.YtdbkefgdeenjoaaDoor.X
open Go.RowKit Go.Proofs.YtdbkefgdeenjoaaDoorW.PrintWords Go.Proofs.YtdbkefgdeenjoaaDoorW.PrintLast Go.Proofs.YtdbkefgdeenjoaaDoorW.PrintMore
attribute [local go_sem] max2_int min2_int max_two min_two max_three min_three max_four min_four   -- for this text's walks alone
set_option linter.unusedVariables false
set_option linter.unusedSimpArgs false

/-! ### text_wide: function 31 -/
def text_wide.f (a0 : Int) : Option (Int × Bool) := if a0 = 2 then (some (2, true)) else (if a0 = 1 then (some (2, false)) else (if a0 = 4 then (some (4, true)) else (if a0 = 3 then (some (4, false)) else (some (1, false)))))
set_option maxHeartbeats 8000000 in
set_option maxRecDepth 100000 in
theorem text_wide.calls (a0 : Int) (r1 : Int) (r2 : Bool) (w : World) (h : text_wide.f a0 = some (r1, r2)) :
    Calls Tryd.prog 31 #[.int .i64 a0] w fun e w' => e = .returned (.tuple #[.int .i64 r1, .bool r2]) ∧ Drawn0 w w' := by
  have H : (if a0 = 2 then (some (2, true)) else (if a0 = 1 then (some (2, false)) else (if a0 = 4 then (some (4, true)) else (if a0 = 3 then (some (4, false)) else (some (1, false)))))) = some (r1, r2) := h
  clear h
  by_cases c2 : a0 = 2
  · rw [if_pos c2] at H
    have c2b0 : (a0 == 2) = true := beq_iff_eq.mpr c2
    have c2b1 : (a0 != 2) = false := bne_eq_false_iff_eq.mpr c2
    clear c2
    simp only [Option.some.injEq, Prod.mk.injEq] at H
    obtain ⟨rfl, rfl⟩ := H
    go_enter Tryd.func31, Tryd.ntmps31
    go_wp2
    go_ret2
    exact ⟨by first | rfl | (simp; done) | (simp [*]; done) | (simp [xbne_nil, xbeq_nil]; done), by repeat (first | exact Drawn0.refl _ | apply Drawn0.step)⟩
  · rw [if_neg c2] at H
    have c2b0 : (a0 == 2) = false := beq_eq_false_iff_ne.mpr c2
    have c2b1 : (a0 != 2) = true := bne_iff_ne.mpr c2
    by_cases c3 : a0 = 1
    · rw [if_pos c3] at H
      have c3b0 : (a0 == 1) = true := beq_iff_eq.mpr c3
      have c3b1 : (a0 != 1) = false := bne_eq_false_iff_eq.mpr c3
      clear c3
      simp only [Option.some.injEq, Prod.mk.injEq] at H
      obtain ⟨rfl, rfl⟩ := H
      go_enter Tryd.func31, Tryd.ntmps31
      go_wp2
      go_ret2
      exact ⟨by first | rfl | (simp; done) | (simp [*]; done) | (simp [xbne_nil, xbeq_nil]; done), by repeat (first | exact Drawn0.refl _ | apply Drawn0.step)⟩
    · rw [if_neg c3] at H
      have c3b0 : (a0 == 1) = false := beq_eq_false_iff_ne.mpr c3
      have c3b1 : (a0 != 1) = true := bne_iff_ne.mpr c3
      by_cases c4 : a0 = 4
      · rw [if_pos c4] at H
        have c4b0 : (a0 == 4) = true := beq_iff_eq.mpr c4
        have c4b1 : (a0 != 4) = false := bne_eq_false_iff_eq.mpr c4
        clear c4
        simp only [Option.some.injEq, Prod.mk.injEq] at H
        obtain ⟨rfl, rfl⟩ := H
        go_enter Tryd.func31, Tryd.ntmps31
        go_wp2
        go_ret2
        exact ⟨by first | rfl | (simp; done) | (simp [*]; done) | (simp [xbne_nil, xbeq_nil]; done), by repeat (first | exact Drawn0.refl _ | apply Drawn0.step)⟩
      · rw [if_neg c4] at H
        have c4b0 : (a0 == 4) = false := beq_eq_false_iff_ne.mpr c4
        have c4b1 : (a0 != 4) = true := bne_iff_ne.mpr c4
        by_cases c5 : a0 = 3
        · rw [if_pos c5] at H
          have c5b0 : (a0 == 3) = true := beq_iff_eq.mpr c5
          have c5b1 : (a0 != 3) = false := bne_eq_false_iff_eq.mpr c5
          clear c5
          simp only [Option.some.injEq, Prod.mk.injEq] at H
          obtain ⟨rfl, rfl⟩ := H
          go_enter Tryd.func31, Tryd.ntmps31
          go_wp2
          go_ret2
          exact ⟨by first | rfl | (simp; done) | (simp [*]; done) | (simp [xbne_nil, xbeq_nil]; done), by repeat (first | exact Drawn0.refl _ | apply Drawn0.step)⟩
        · rw [if_neg c5] at H
          have c5b0 : (a0 == 3) = false := beq_eq_false_iff_ne.mpr c5
          have c5b1 : (a0 != 3) = true := bne_iff_ne.mpr c5
          simp only [Option.some.injEq, Prod.mk.injEq] at H
          obtain ⟨rfl, rfl⟩ := H
          go_enter Tryd.func31, Tryd.ntmps31
          go_wp2
          go_ret2
          exact ⟨by first | rfl | (simp; done) | (simp [*]; done) | (simp [xbne_nil, xbeq_nil]; done), by repeat (first | exact Drawn0.refl _ | apply Drawn0.step)⟩

/-! ### utf8_DecodeRune: function 49 -/
def utf8_DecodeRune.bytes (l : List Int) : ByteArray := ⟨(l.map fun x => UInt8.ofNat x.toNat).toArray⟩
def utf8_DecodeRune.f (l0 : List Int) : Option (Int × Int) := if l0 ≠ [] ∧ ∀ x ∈ l0, 0 ≤ x ∧ x ≤ 255 then some (((Lib.decodeGo (utf8_DecodeRune.bytes l0)).1 : Int), ((Lib.decodeGo (utf8_DecodeRune.bytes l0)).2 : Int)) else none
theorem utf8_DecodeRune.calls (A0 : Option Addr) (c0 : Nat) (l0 : List Int) (r1 : Int) (r2 : Int) (w : World) (hr0 : Kd.C (Kd.int .u8) w A0 l0.length l0) (_hc0 : l0.length ≤ c0) (hT : Tabs.Holds w) (h : utf8_DecodeRune.f l0 = some (r1, r2)) :
    Calls Tryd.prog 49 #[.slice A0 l0.length c0] w fun e w' => e = .returned (.tuple #[.int .i32 r1, .int .i64 r2]) ∧ Below w.heap.size w w' := by
  unfold utf8_DecodeRune.f at h
  by_cases hc : l0 ≠ [] ∧ ∀ x ∈ l0, 0 ≤ x ∧ x ≤ 255
  · rw [if_pos hc] at h
    simp only [Option.some.injEq, Prod.mk.injEq] at h
    obtain ⟨rfl, rfl⟩ := h
    have hpos : 0 < l0.length := by
      cases l0 with
      | nil => exact absurd rfl hc.1
      | cons _ _ => simp
    obtain ⟨ad, rfl, h0⟩ := Kd.at_int hr0 0 (by omega) (by omega)
    have hsp : ad.spot = none := by
      have : ad.add (0 : Int).toNat = ad := by simp [Addr.add]
      rw [this] at h0
      unfold World.cell? at h0
      cases hs : ad.spot with
      | none => rfl
      | some z => rw [hs] at h0; split at h0 <;> simp at h0
    obtain ⟨b, off, sp⟩ := ad
    obtain rfl : sp = none := hsp
    have hsz : (utf8_DecodeRune.bytes l0).size = l0.length := by unfold utf8_DecodeRune.bytes; simp [ByteArray.size]
    rw [← hsz]
    refine Tabs.decode (utf8_DecodeRune.bytes l0) b off c0 w hT (fun j hj => ?_)
    rw [hsz] at hj
    obtain ⟨ad', e', hx⟩ := Kd.at_int hr0 (j : Int) (by omega) (by omega)
    injection e' with e'
    subst e'
    have ha : (⟨b, off, none⟩ : Addr).add (j : Int).toNat = ⟨b, off + j, none⟩ := by
      rw [Int.toNat_natCast]; unfold Addr.add
      split
      · rename_i hz; subst hz; rfl
      · rfl
    rw [ha] at hx
    rw [hx]
    have hl : j < l0.length := hj
    have h1 : rd l0 (j : Int) = l0[j] := by unfold rd; rw [Int.toNat_natCast, List.getD_eq_getElem?_getD, List.getElem?_eq_getElem hl]; rfl
    have h2 := hc.2 l0[j] (List.getElem_mem hl)
    have h3 : (utf8_DecodeRune.bytes l0).get! j = UInt8.ofNat (l0[j]).toNat := by
      have hj2 : j < (l0.map fun x => UInt8.ofNat x.toNat).toArray.size := by simpa using hl
      show ((l0.map fun x => UInt8.ofNat x.toNat).toArray)[j]! = _
      rw [getElem!_pos _ j hj2]; simp
    rw [h1, h3, UInt8.toNat_ofNat']
    congr 2; omega
  · rw [if_neg hc] at h; cases h

end Go.Proofs.YtdbkefgdeenjoaaDoor.X
