/- Words and walks that the row of TagSigns needs: printed by programs, and plain laws. -/
import Derived.Test.YthgafcaoibfchaaDoorM0
section
namespace Go.Proofs.YthgafcaoibfchaaDoor.X
open Go.RowKit Go.Proofs.YthgafcaoibfchaaDoorW.PrintWords Go.Proofs.YthgafcaoibfchaaDoorW.PrintLast Go.Proofs.YthgafcaoibfchaaDoorW.PrintMore
attribute [local go_sem] max2_int min2_int max_two min_two max_three min_three max_four min_four
set_option linter.unusedVariables false
set_option linter.unusedSimpArgs false
def tag_real.j0 : Nat → ByteArray → Int → Int → Option (Bool)
  | 0, _, _, _ => none
  | k + 1, x3, x4, x5 => if (wrap64 (x4 + x5)) = 0 then (some false) else (if x3.toList = ([] : List UInt8) then (some true) else (if 0 < (x3.size : Int) then (if (bt x3 0) = 101 then (if 1 ≤ (x3.size : Int) then ((tag_sign.f (x3.extract 1 x3.size)).bind fun t122 => ((tag_all.f k t122 10).bind fun t123 => (some t123))) else (none)) else (if (bt x3 0) = 69 then (if 1 ≤ (x3.size : Int) then ((tag_sign.f (x3.extract 1 x3.size)).bind fun t124 => ((tag_all.f k t124 10).bind fun t125 => (some t125))) else (none)) else (some false))) else (none)))
def tag_real.f (k : Nat) (a0 : ByteArray) : Option (Bool) := (tag_sign.f a0).bind fun t115 => ((tag_digits.f k t115 10).bind fun bt116 => ((strings_CutPrefix.f bt116.1 (⟨#[46]⟩ : ByteArray)).bind fun bt118 => (if bt118.2 = true then ((tag_digits.f k bt118.1 10).bind fun bt120 => (tag_real.j0 k bt120.1 bt116.2 bt120.2)) else (tag_real.j0 k bt116.1 bt116.2 0))))
set_option maxHeartbeats 8000000 in
set_option maxRecDepth 100000 in
theorem tag_real.calls (k : Nat) (a0 : ByteArray) (r : Bool) (w : World) (h : tag_real.f k a0 = some r) :
    Calls Tryd.prog 65 #[.string a0] w fun e w' => e = .returned (.bool r) ∧ Drawn0 w w' := by
  have H : ((tag_sign.f a0).bind fun t115 => ((tag_digits.f k t115 10).bind fun bt116 => ((strings_CutPrefix.f bt116.1 (⟨#[46]⟩ : ByteArray)).bind fun bt118 => (if bt118.2 = true then ((tag_digits.f k bt118.1 10).bind fun bt120 => (tag_real.j0 k bt120.1 bt116.2 bt120.2)) else (tag_real.j0 k bt116.1 bt116.2 0))))) = some r := h
  clear h
  replace H := Option.bind_eq_some_iff.mp H
  obtain ⟨t115, A20, H⟩ := H
  replace H : ((tag_digits.f k t115 10).bind fun bt116 => ((strings_CutPrefix.f bt116.1 (⟨#[46]⟩ : ByteArray)).bind fun bt118 => (if bt118.2 = true then ((tag_digits.f k bt118.1 10).bind fun bt120 => (tag_real.j0 k bt120.1 bt116.2 bt120.2)) else (tag_real.j0 k bt116.1 bt116.2 0)))) = some r := H
  have A2 := Aside0.mk A20
  clear A20
  replace H := Option.bind_eq_some_iff.mp H
  obtain ⟨⟨t116, t117⟩, A30, H⟩ := H
  replace H : ((strings_CutPrefix.f t116 (⟨#[46]⟩ : ByteArray)).bind fun bt118 => (if bt118.2 = true then ((tag_digits.f k bt118.1 10).bind fun bt120 => (tag_real.j0 k bt120.1 t117 bt120.2)) else (tag_real.j0 k t116 t117 0))) = some r := H
  have A3 := Aside0.mk A30
  clear A30
  replace H := Option.bind_eq_some_iff.mp H
  obtain ⟨⟨t118, t119⟩, A40, H⟩ := H
  replace H : (if t119 = true then ((tag_digits.f k t118 10).bind fun bt120 => (tag_real.j0 k bt120.1 t117 bt120.2)) else (tag_real.j0 k t116 t117 0)) = some r := H
  have A4 := Aside0.mk A40
  clear A40
  have HC5 := Aside0.mk H
  clear H
  go_enter Tryd.func65, Tryd.ntmps65
  go_upto_if 19 with (first | ((with_reducible refine gate_callee (f := 63) rfl ?_); refine goesL_ (some 10) rfl rfl Tryd.func63 (by kernel_rfl) rfl #[.string a0] rfl (by (try simp only [List.map_toArray, List.map_cons, List.map_nil]); first | done | rfl | (simp only [List.length_drop, List.length_take]; rfl)) ?_; (with_reducible refine (tag_sign.calls a0 t115 _ A2.out).mono ?_); rintro e w' ⟨rfl, ⟨nd, rfl⟩⟩; refine ⟨_, rfl, ?_⟩) | ((with_reducible refine gate_callee (f := 101) rfl ?_); refine goesL_ (some 11) rfl rfl Tryd.func101 (by kernel_rfl) rfl #[.string t115, .int .i64 10] rfl (by (try simp only [List.map_toArray, List.map_cons, List.map_nil]); first | done | rfl | (simp only [List.length_drop, List.length_take]; rfl)) ?_; (with_reducible refine (tag_digits.calls k t115 10 t116 t117 _ A3.out).mono ?_); rintro e w' ⟨rfl, ⟨nd, rfl⟩⟩; refine ⟨_, rfl, ?_⟩) | ((with_reducible refine gate_callee (f := 93) rfl ?_); refine goesL_ (some 16) rfl rfl Tryd.func93 (by kernel_rfl) rfl #[.string t116, .string (⟨#[46]⟩ : ByteArray)] rfl (by (try simp only [List.map_toArray, List.map_cons, List.map_nil]); first | done | rfl | (simp only [List.length_drop, List.length_take]; rfl)) ?_; (with_reducible refine (strings_CutPrefix.calls t116 (⟨#[46]⟩ : ByteArray) t118 t119 _ A4.out).mono ?_); rintro e w' ⟨rfl, ⟨nd, rfl⟩⟩; refine ⟨_, rfl, ?_⟩))
  (try simp only [Act.put, List.setIfInBounds_toArray, List.set_cons_zero, List.set_cons_succ])
  go_cut [3, 5] (fun v3 v5 wc => ∃ (kq : Nat) (x3_4 : ByteArray) (x5_4 : Int), v3 = .string x3_4 ∧ v5 = .int .i64 x5_4 ∧ Aside0 (tag_real.j0 kq x3_4 t117 x5_4 = some r) ∧ Aside0 (kq ≤ k) ∧ Drawn0 w wc)
  case first =>
    have H := HC5.out
    clear HC5
    by_cases c6 : t119 = true
    · subst c6
      have H1 : ((tag_digits.f k t118 10).bind fun bt120 => (tag_real.j0 k bt120.1 t117 bt120.2)) = some r := by rw [if_pos rfl] at H; exact H
      clear H
      have H := H1
      clear H1
      replace H := Option.bind_eq_some_iff.mp H
      obtain ⟨⟨t120, t121⟩, A70, H⟩ := H
      replace H : (tag_real.j0 k t120 t117 t121) = some r := H
      have A7 := Aside0.mk A70
      clear A70
      have H' := Aside0.mk H
      clear H
      go_wp2_with (first | ((with_reducible refine gate_callee (f := 101) rfl ?_); refine goesL_ (some 22) rfl rfl Tryd.func101 (by kernel_rfl) rfl #[.string t118, .int .i64 10] rfl (by (try simp only [List.map_toArray, List.map_cons, List.map_nil]); first | done | rfl | (simp only [List.length_drop, List.length_take]; rfl)) ?_; (with_reducible refine (tag_digits.calls k t118 10 t120 t121 _ A7.out).mono ?_); rintro e w' ⟨rfl, ⟨nd, rfl⟩⟩; refine ⟨_, rfl, ?_⟩))
      go_meet
      case rel => exact ⟨_, (t120), (t121), (by first | rfl | (simp; done) | (simp [*]; done) | (simp [xbne_nil, xbeq_nil]; done)), (by first | rfl | (simp; done) | (simp [*]; done) | (simp [xbne_nil, xbeq_nil]; done)), H', ⟨by first | omega | exact Nat.le_refl _⟩, by repeat (first | exact Drawn0.refl _ | apply Drawn0.step)⟩
    · replace c6 := Bool.eq_false_iff.mpr c6
      subst c6
      have H1 : (tag_real.j0 k t116 t117 0) = some r := by rw [if_neg (show ¬ (false = true) by decide)] at H; exact H
      clear H
      have H := H1
      clear H1
      have H' := Aside0.mk H
      clear H
      go_wp2
      go_meet
      case rel => exact ⟨_, (t116), (0), (by first | rfl | (simp; done) | (simp [*]; done) | (simp [xbne_nil, xbeq_nil]; done)), (by first | rfl | (simp; done) | (simp [*]; done) | (simp [xbne_nil, xbeq_nil]; done)), H', ⟨by first | omega | exact Nat.le_refl _⟩, by repeat (first | exact Drawn0.refl _ | apply Drawn0.step)⟩
  case rest =>
    clear HC5
    try clear c1
    try clear p2
    try clear c6
    obtain ⟨kq, x3_4, x5_4, rfl, rfl, HA, HJ4, ⟨mc4, rfl⟩⟩ := hcut
    cases kq with
    | zero => exact absurd HA.out (by simp [tag_real.j0])
    | succ kj4 =>
      have H := HA.out
      clear HA
      simp only [tag_real.j0] at H
      by_cases c8 : (wrap64 (t117 + x5_4)) = 0
      · rw [if_pos c8] at H
        have c8b0 : ((wrap64 (t117 + x5_4)) == 0) = true := beq_iff_eq.mpr c8
        have c8b1 : ((wrap64 (t117 + x5_4)) != 0) = false := bne_eq_false_iff_eq.mpr c8
        clear c8
        obtain rfl := Option.some.inj H
        go_wp2
        go_ret
        exact ⟨by first | rfl | (simp; done) | (simp [*]; done) | (simp [xbne_nil, xbeq_nil]; done), by repeat (first | exact Drawn0.refl _ | apply Drawn0.step)⟩
      · rw [if_neg c8] at H
        have c8b0 : ((wrap64 (t117 + x5_4)) == 0) = false := beq_eq_false_iff_ne.mpr c8
        have c8b1 : ((wrap64 (t117 + x5_4)) != 0) = true := bne_iff_ne.mpr c8
        by_cases c9 : x3_4.toList = ([] : List UInt8)
        · rw [if_pos c9] at H
          have c9b0 : (x3_4.toList == ([] : List UInt8)) = true := beq_iff_eq.mpr c9
          have c9b1 : (x3_4.toList != ([] : List UInt8)) = false := bne_eq_false_iff_eq.mpr c9
          clear c9
          obtain rfl := Option.some.inj H
          go_wp2
          go_ret
          exact ⟨by first | rfl | (simp; done) | (simp [*]; done) | (simp [xbne_nil, xbeq_nil]; done), by repeat (first | exact Drawn0.refl _ | apply Drawn0.step)⟩
        · rw [if_neg c9] at H
          have c9b0 : (x3_4.toList == ([] : List UInt8)) = false := beq_eq_false_iff_ne.mpr c9
          have c9b1 : (x3_4.toList != ([] : List UInt8)) = true := bne_iff_ne.mpr c9
          by_cases c10 : 0 < (x3_4.size : Int)
          · rw [if_pos c10] at H
            have c10b0 : decide (0 < (x3_4.size : Int)) = true := decide_eq_true c10
            have c10b1 : decide (0 < x3_4.size) = true := decide_eq_true (by omega)
            clear c10
            by_cases c12 : (bt x3_4 0) = 101
            · rw [if_pos c12] at H
              have c12b0 : ((bt x3_4 0) == 101) = true := beq_iff_eq.mpr c12
              have c12b1 : ((bt x3_4 0) != 101) = false := bne_eq_false_iff_eq.mpr c12
              clear c12
              by_cases c13 : 1 ≤ (x3_4.size : Int)
              · rw [if_pos c13] at H
                have c13b0 := eq_true c13
                have c13b1 : decide (1 ≤ (x3_4.size : Int)) = true := decide_eq_true c13
                clear c13
                replace H := Option.bind_eq_some_iff.mp H
                obtain ⟨t122, A140, H⟩ := H
                replace H : ((tag_all.f kj4 t122 10).bind fun t123 => (some t123)) = some r := H
                have A14 := Aside0.mk A140
                clear A140
                replace H := Option.bind_eq_some_iff.mp H
                obtain ⟨t123, A150, H⟩ := H
                replace H : (some t123) = some r := H
                have A15 := Aside0.mk A150
                clear A150
                obtain rfl := Option.some.inj H
                have p11 : 0 ≤ (0 : Int) := (by omega)
                have q11 : 0 < x3_4.size := (by have : (0 : Int) < (x3_4.size : Int) := of_decide_eq_true (by first | (with_reducible assumption) | assumption); omega)
                have hx11 : ∀ h : 0 < x3_4.size, ((x3_4[0]'h).toNat : Int) = bt x3_4 0 := bt_at x3_4 0
                clear p11
                have qi11 : (0 < (x3_4.size : Int)) = True := eq_true (of_decide_eq_true (by first | (with_reducible assumption) | assumption))
                replace q11 := eq_true q11
                go_wp2_with (first | (go_at_call 63; (with_reducible refine (tag_sign.calls (x3_4.extract 1 x3_4.size) t122 _ A14.out).mono ?_); rintro e w' ⟨rfl, ⟨nd, rfl⟩⟩) | (go_at_call 100; (with_reducible refine (tag_all.calls kj4 t122 10 t123 _ A15.out).mono ?_); rintro e w' ⟨rfl, ⟨nd, rfl⟩⟩))
                go_ret
                exact ⟨by first | rfl | (simp; done) | (simp [*]; done) | (simp [xbne_nil, xbeq_nil]; done), by repeat (first | exact Drawn0.refl _ | apply Drawn0.step)⟩
              · rw [if_neg c13] at H
                exact absurd H (by simp)
            · rw [if_neg c12] at H
              have c12b0 : ((bt x3_4 0) == 101) = false := beq_eq_false_iff_ne.mpr c12
              have c12b1 : ((bt x3_4 0) != 101) = true := bne_iff_ne.mpr c12
              by_cases c17 : (bt x3_4 0) = 69
              · rw [if_pos c17] at H
                have c17b0 : ((bt x3_4 0) == 69) = true := beq_iff_eq.mpr c17
                have c17b1 : ((bt x3_4 0) != 69) = false := bne_eq_false_iff_eq.mpr c17
                clear c17
                by_cases c18 : 1 ≤ (x3_4.size : Int)
                · rw [if_pos c18] at H
                  have c18b0 := eq_true c18
                  have c18b1 : decide (1 ≤ (x3_4.size : Int)) = true := decide_eq_true c18
                  clear c18
                  replace H := Option.bind_eq_some_iff.mp H
                  obtain ⟨t124, A190, H⟩ := H
                  replace H : ((tag_all.f kj4 t124 10).bind fun t125 => (some t125)) = some r := H
                  have A19 := Aside0.mk A190
                  clear A190
                  replace H := Option.bind_eq_some_iff.mp H
                  obtain ⟨t125, A200, H⟩ := H
                  replace H : (some t125) = some r := H
                  have A20 := Aside0.mk A200
                  clear A200
                  obtain rfl := Option.some.inj H
                  have p11 : 0 ≤ (0 : Int) := (by omega)
                  have q11 : 0 < x3_4.size := (by have : (0 : Int) < (x3_4.size : Int) := of_decide_eq_true (by first | (with_reducible assumption) | assumption); omega)
                  have hx11 : ∀ h : 0 < x3_4.size, ((x3_4[0]'h).toNat : Int) = bt x3_4 0 := bt_at x3_4 0
                  clear p11
                  have qi11 : (0 < (x3_4.size : Int)) = True := eq_true (of_decide_eq_true (by first | (with_reducible assumption) | assumption))
                  replace q11 := eq_true q11
                  have p16 : 0 ≤ (0 : Int) := (by omega)
                  have q16 : 0 < x3_4.size := (by have : (0 : Int) < (x3_4.size : Int) := of_decide_eq_true (by first | (with_reducible assumption) | assumption); omega)
                  have hx16 : ∀ h : 0 < x3_4.size, ((x3_4[0]'h).toNat : Int) = bt x3_4 0 := bt_at x3_4 0
                  clear p16
                  have qi16 : (0 < (x3_4.size : Int)) = True := eq_true (of_decide_eq_true (by first | (with_reducible assumption) | assumption))
                  replace q16 := eq_true q16
                  go_wp2_with (first | (go_at_call 63; (with_reducible refine (tag_sign.calls (x3_4.extract 1 x3_4.size) t124 _ A19.out).mono ?_); rintro e w' ⟨rfl, ⟨nd, rfl⟩⟩) | (go_at_call 100; (with_reducible refine (tag_all.calls kj4 t124 10 t125 _ A20.out).mono ?_); rintro e w' ⟨rfl, ⟨nd, rfl⟩⟩))
                  go_ret
                  exact ⟨by first | rfl | (simp; done) | (simp [*]; done) | (simp [xbne_nil, xbeq_nil]; done), by repeat (first | exact Drawn0.refl _ | apply Drawn0.step)⟩
                · rw [if_neg c18] at H
                  exact absurd H (by simp)
              · rw [if_neg c17] at H
                have c17b0 : ((bt x3_4 0) == 69) = false := beq_eq_false_iff_ne.mpr c17
                have c17b1 : ((bt x3_4 0) != 69) = true := bne_iff_ne.mpr c17
                obtain rfl := Option.some.inj H
                have p11 : 0 ≤ (0 : Int) := (by omega)
                have q11 : 0 < x3_4.size := (by have : (0 : Int) < (x3_4.size : Int) := of_decide_eq_true (by first | (with_reducible assumption) | assumption); omega)
                have hx11 : ∀ h : 0 < x3_4.size, ((x3_4[0]'h).toNat : Int) = bt x3_4 0 := bt_at x3_4 0
                clear p11
                have qi11 : (0 < (x3_4.size : Int)) = True := eq_true (of_decide_eq_true (by first | (with_reducible assumption) | assumption))
                replace q11 := eq_true q11
                have p16 : 0 ≤ (0 : Int) := (by omega)
                have q16 : 0 < x3_4.size := (by have : (0 : Int) < (x3_4.size : Int) := of_decide_eq_true (by first | (with_reducible assumption) | assumption); omega)
                have hx16 : ∀ h : 0 < x3_4.size, ((x3_4[0]'h).toNat : Int) = bt x3_4 0 := bt_at x3_4 0
                clear p16
                have qi16 : (0 < (x3_4.size : Int)) = True := eq_true (of_decide_eq_true (by first | (with_reducible assumption) | assumption))
                replace q16 := eq_true q16
                go_wp2
                go_ret
                exact ⟨by first | rfl | (simp; done) | (simp [*]; done) | (simp [xbne_nil, xbeq_nil]; done), by repeat (first | exact Drawn0.refl _ | apply Drawn0.step)⟩
          · rw [if_neg c10] at H
            exact absurd H (by simp)
end Go.Proofs.YthgafcaoibfchaaDoor.X
end
section
namespace Go.Proofs.YthgafcaoibfchaaDoor.X
open Go.RowKit Go.Proofs.YthgafcaoibfchaaDoorW.PrintWords Go.Proofs.YthgafcaoibfchaaDoorW.PrintLast Go.Proofs.YthgafcaoibfchaaDoorW.PrintMore
attribute [local go_sem] max2_int min2_int max_two min_two max_three min_three max_four min_four
set_option linter.unusedVariables false
set_option linter.unusedSimpArgs false
def tag_Resolve.f (k : Nat) (a0 : ByteArray) : Option (ByteArray) := if a0.toList = ([] : List UInt8) then (some (⟨#[110, 117, 108, 108]⟩ : ByteArray)) else (if a0.toList = ([126] : List UInt8) then (some (⟨#[110, 117, 108, 108]⟩ : ByteArray)) else (if a0.toList = ([110, 117, 108, 108] : List UInt8) then (some (⟨#[110, 117, 108, 108]⟩ : ByteArray)) else (if a0.toList = ([78, 117, 108, 108] : List UInt8) then (some (⟨#[110, 117, 108, 108]⟩ : ByteArray)) else (if a0.toList = ([78, 85, 76, 76] : List UInt8) then (some (⟨#[110, 117, 108, 108]⟩ : ByteArray)) else (if a0.toList = ([116, 114, 117, 101] : List UInt8) then (some (⟨#[98, 111, 111, 108]⟩ : ByteArray)) else (if a0.toList = ([84, 114, 117, 101] : List UInt8) then (some (⟨#[98, 111, 111, 108]⟩ : ByteArray)) else (if a0.toList = ([84, 82, 85, 69] : List UInt8) then (some (⟨#[98, 111, 111, 108]⟩ : ByteArray)) else (if a0.toList = ([102, 97, 108, 115, 101] : List UInt8) then (some (⟨#[98, 111, 111, 108]⟩ : ByteArray)) else (if a0.toList = ([70, 97, 108, 115, 101] : List UInt8) then (some (⟨#[98, 111, 111, 108]⟩ : ByteArray)) else (if a0.toList = ([70, 65, 76, 83, 69] : List UInt8) then (some (⟨#[98, 111, 111, 108]⟩ : ByteArray)) else (if a0.toList = ([46, 110, 97, 110] : List UInt8) then (some (⟨#[102, 108, 111, 97, 116]⟩ : ByteArray)) else (if a0.toList = ([46, 78, 97, 78] : List UInt8) then (some (⟨#[102, 108, 111, 97, 116]⟩ : ByteArray)) else (if a0.toList = ([46, 78, 65, 78] : List UInt8) then (some (⟨#[102, 108, 111, 97, 116]⟩ : ByteArray)) else ((tag_sign.f a0).bind fun t126 => (if t126.toList = ([46, 105, 110, 102] : List UInt8) then (some (⟨#[102, 108, 111, 97, 116]⟩ : ByteArray)) else (if t126.toList = ([46, 73, 110, 102] : List UInt8) then (some (⟨#[102, 108, 111, 97, 116]⟩ : ByteArray)) else (if t126.toList = ([46, 73, 78, 70] : List UInt8) then (some (⟨#[102, 108, 111, 97, 116]⟩ : ByteArray)) else ((tag_whole.f k a0).bind fun t127 => (if t127 = true then (some (⟨#[105, 110, 116]⟩ : ByteArray)) else ((tag_real.f k a0).bind fun t128 => (if t128 = true then (some (⟨#[102, 108, 111, 97, 116]⟩ : ByteArray)) else (some (⟨#[115, 116, 114]⟩ : ByteArray)))))))))))))))))))))))
set_option maxHeartbeats 8000000 in
set_option maxRecDepth 100000 in
theorem tag_Resolve.calls (k : Nat) (a0 : ByteArray) (r : ByteArray) (w : World) (h : tag_Resolve.f k a0 = some r) :
    Calls Tryd.prog 16 #[.string a0] w fun e w' => e = .returned (.string r) ∧ Drawn0 w w' := by
  have H : (if a0.toList = ([] : List UInt8) then (some (⟨#[110, 117, 108, 108]⟩ : ByteArray)) else (if a0.toList = ([126] : List UInt8) then (some (⟨#[110, 117, 108, 108]⟩ : ByteArray)) else (if a0.toList = ([110, 117, 108, 108] : List UInt8) then (some (⟨#[110, 117, 108, 108]⟩ : ByteArray)) else (if a0.toList = ([78, 117, 108, 108] : List UInt8) then (some (⟨#[110, 117, 108, 108]⟩ : ByteArray)) else (if a0.toList = ([78, 85, 76, 76] : List UInt8) then (some (⟨#[110, 117, 108, 108]⟩ : ByteArray)) else (if a0.toList = ([116, 114, 117, 101] : List UInt8) then (some (⟨#[98, 111, 111, 108]⟩ : ByteArray)) else (if a0.toList = ([84, 114, 117, 101] : List UInt8) then (some (⟨#[98, 111, 111, 108]⟩ : ByteArray)) else (if a0.toList = ([84, 82, 85, 69] : List UInt8) then (some (⟨#[98, 111, 111, 108]⟩ : ByteArray)) else (if a0.toList = ([102, 97, 108, 115, 101] : List UInt8) then (some (⟨#[98, 111, 111, 108]⟩ : ByteArray)) else (if a0.toList = ([70, 97, 108, 115, 101] : List UInt8) then (some (⟨#[98, 111, 111, 108]⟩ : ByteArray)) else (if a0.toList = ([70, 65, 76, 83, 69] : List UInt8) then (some (⟨#[98, 111, 111, 108]⟩ : ByteArray)) else (if a0.toList = ([46, 110, 97, 110] : List UInt8) then (some (⟨#[102, 108, 111, 97, 116]⟩ : ByteArray)) else (if a0.toList = ([46, 78, 97, 78] : List UInt8) then (some (⟨#[102, 108, 111, 97, 116]⟩ : ByteArray)) else (if a0.toList = ([46, 78, 65, 78] : List UInt8) then (some (⟨#[102, 108, 111, 97, 116]⟩ : ByteArray)) else ((tag_sign.f a0).bind fun t126 => (if t126.toList = ([46, 105, 110, 102] : List UInt8) then (some (⟨#[102, 108, 111, 97, 116]⟩ : ByteArray)) else (if t126.toList = ([46, 73, 110, 102] : List UInt8) then (some (⟨#[102, 108, 111, 97, 116]⟩ : ByteArray)) else (if t126.toList = ([46, 73, 78, 70] : List UInt8) then (some (⟨#[102, 108, 111, 97, 116]⟩ : ByteArray)) else ((tag_whole.f k a0).bind fun t127 => (if t127 = true then (some (⟨#[105, 110, 116]⟩ : ByteArray)) else ((tag_real.f k a0).bind fun t128 => (if t128 = true then (some (⟨#[102, 108, 111, 97, 116]⟩ : ByteArray)) else (some (⟨#[115, 116, 114]⟩ : ByteArray)))))))))))))))))))))))) = some r := h
  clear h
  by_cases c2 : a0.toList = ([] : List UInt8)
  · rw [if_pos c2] at H
    have c2b0 : (a0.toList == ([] : List UInt8)) = true := beq_iff_eq.mpr c2
    have c2b1 : (a0.toList != ([] : List UInt8)) = false := bne_eq_false_iff_eq.mpr c2
    clear c2
    obtain rfl := Option.some.inj H
    go_enter Tryd.func16, Tryd.ntmps16
    go_wp2
    go_ret
    exact ⟨by first | rfl | (simp; done) | (simp [*]; done) | (simp [xbne_nil, xbeq_nil]; done), by repeat (first | exact Drawn0.refl _ | apply Drawn0.step)⟩
  · rw [if_neg c2] at H
    have c2b0 : (a0.toList == ([] : List UInt8)) = false := beq_eq_false_iff_ne.mpr c2
    have c2b1 : (a0.toList != ([] : List UInt8)) = true := bne_iff_ne.mpr c2
    by_cases c3 : a0.toList = ([126] : List UInt8)
    · rw [if_pos c3] at H
      have c3b0 : (a0.toList == ([126] : List UInt8)) = true := beq_iff_eq.mpr c3
      have c3b1 : (a0.toList != ([126] : List UInt8)) = false := bne_eq_false_iff_eq.mpr c3
      clear c3
      obtain rfl := Option.some.inj H
      go_enter Tryd.func16, Tryd.ntmps16
      go_wp2
      go_ret
      exact ⟨by first | rfl | (simp; done) | (simp [*]; done) | (simp [xbne_nil, xbeq_nil]; done), by repeat (first | exact Drawn0.refl _ | apply Drawn0.step)⟩
    · rw [if_neg c3] at H
      have c3b0 : (a0.toList == ([126] : List UInt8)) = false := beq_eq_false_iff_ne.mpr c3
      have c3b1 : (a0.toList != ([126] : List UInt8)) = true := bne_iff_ne.mpr c3
      by_cases c4 : a0.toList = ([110, 117, 108, 108] : List UInt8)
      · rw [if_pos c4] at H
        have c4b0 : (a0.toList == ([110, 117, 108, 108] : List UInt8)) = true := beq_iff_eq.mpr c4
        have c4b1 : (a0.toList != ([110, 117, 108, 108] : List UInt8)) = false := bne_eq_false_iff_eq.mpr c4
        clear c4
        obtain rfl := Option.some.inj H
        go_enter Tryd.func16, Tryd.ntmps16
        go_wp2
        go_ret
        exact ⟨by first | rfl | (simp; done) | (simp [*]; done) | (simp [xbne_nil, xbeq_nil]; done), by repeat (first | exact Drawn0.refl _ | apply Drawn0.step)⟩
      · rw [if_neg c4] at H
        have c4b0 : (a0.toList == ([110, 117, 108, 108] : List UInt8)) = false := beq_eq_false_iff_ne.mpr c4
        have c4b1 : (a0.toList != ([110, 117, 108, 108] : List UInt8)) = true := bne_iff_ne.mpr c4
        by_cases c5 : a0.toList = ([78, 117, 108, 108] : List UInt8)
        · rw [if_pos c5] at H
          have c5b0 : (a0.toList == ([78, 117, 108, 108] : List UInt8)) = true := beq_iff_eq.mpr c5
          have c5b1 : (a0.toList != ([78, 117, 108, 108] : List UInt8)) = false := bne_eq_false_iff_eq.mpr c5
          clear c5
          obtain rfl := Option.some.inj H
          go_enter Tryd.func16, Tryd.ntmps16
          go_wp2
          go_ret
          exact ⟨by first | rfl | (simp; done) | (simp [*]; done) | (simp [xbne_nil, xbeq_nil]; done), by repeat (first | exact Drawn0.refl _ | apply Drawn0.step)⟩
        · rw [if_neg c5] at H
          have c5b0 : (a0.toList == ([78, 117, 108, 108] : List UInt8)) = false := beq_eq_false_iff_ne.mpr c5
          have c5b1 : (a0.toList != ([78, 117, 108, 108] : List UInt8)) = true := bne_iff_ne.mpr c5
          by_cases c6 : a0.toList = ([78, 85, 76, 76] : List UInt8)
          · rw [if_pos c6] at H
            have c6b0 : (a0.toList == ([78, 85, 76, 76] : List UInt8)) = true := beq_iff_eq.mpr c6
            have c6b1 : (a0.toList != ([78, 85, 76, 76] : List UInt8)) = false := bne_eq_false_iff_eq.mpr c6
            clear c6
            obtain rfl := Option.some.inj H
            go_enter Tryd.func16, Tryd.ntmps16
            go_wp2
            go_ret
            exact ⟨by first | rfl | (simp; done) | (simp [*]; done) | (simp [xbne_nil, xbeq_nil]; done), by repeat (first | exact Drawn0.refl _ | apply Drawn0.step)⟩
          · rw [if_neg c6] at H
            have c6b0 : (a0.toList == ([78, 85, 76, 76] : List UInt8)) = false := beq_eq_false_iff_ne.mpr c6
            have c6b1 : (a0.toList != ([78, 85, 76, 76] : List UInt8)) = true := bne_iff_ne.mpr c6
            by_cases c7 : a0.toList = ([116, 114, 117, 101] : List UInt8)
            · rw [if_pos c7] at H
              have c7b0 : (a0.toList == ([116, 114, 117, 101] : List UInt8)) = true := beq_iff_eq.mpr c7
              have c7b1 : (a0.toList != ([116, 114, 117, 101] : List UInt8)) = false := bne_eq_false_iff_eq.mpr c7
              clear c7
              obtain rfl := Option.some.inj H
              go_enter Tryd.func16, Tryd.ntmps16
              go_wp2
              go_ret
              exact ⟨by first | rfl | (simp; done) | (simp [*]; done) | (simp [xbne_nil, xbeq_nil]; done), by repeat (first | exact Drawn0.refl _ | apply Drawn0.step)⟩
            · rw [if_neg c7] at H
              have c7b0 : (a0.toList == ([116, 114, 117, 101] : List UInt8)) = false := beq_eq_false_iff_ne.mpr c7
              have c7b1 : (a0.toList != ([116, 114, 117, 101] : List UInt8)) = true := bne_iff_ne.mpr c7
              by_cases c8 : a0.toList = ([84, 114, 117, 101] : List UInt8)
              · rw [if_pos c8] at H
                have c8b0 : (a0.toList == ([84, 114, 117, 101] : List UInt8)) = true := beq_iff_eq.mpr c8
                have c8b1 : (a0.toList != ([84, 114, 117, 101] : List UInt8)) = false := bne_eq_false_iff_eq.mpr c8
                clear c8
                obtain rfl := Option.some.inj H
                go_enter Tryd.func16, Tryd.ntmps16
                go_wp2
                go_ret
                exact ⟨by first | rfl | (simp; done) | (simp [*]; done) | (simp [xbne_nil, xbeq_nil]; done), by repeat (first | exact Drawn0.refl _ | apply Drawn0.step)⟩
              · rw [if_neg c8] at H
                have c8b0 : (a0.toList == ([84, 114, 117, 101] : List UInt8)) = false := beq_eq_false_iff_ne.mpr c8
                have c8b1 : (a0.toList != ([84, 114, 117, 101] : List UInt8)) = true := bne_iff_ne.mpr c8
                by_cases c9 : a0.toList = ([84, 82, 85, 69] : List UInt8)
                · rw [if_pos c9] at H
                  have c9b0 : (a0.toList == ([84, 82, 85, 69] : List UInt8)) = true := beq_iff_eq.mpr c9
                  have c9b1 : (a0.toList != ([84, 82, 85, 69] : List UInt8)) = false := bne_eq_false_iff_eq.mpr c9
                  clear c9
                  obtain rfl := Option.some.inj H
                  go_enter Tryd.func16, Tryd.ntmps16
                  go_wp2
                  go_ret
                  exact ⟨by first | rfl | (simp; done) | (simp [*]; done) | (simp [xbne_nil, xbeq_nil]; done), by repeat (first | exact Drawn0.refl _ | apply Drawn0.step)⟩
                · rw [if_neg c9] at H
                  have c9b0 : (a0.toList == ([84, 82, 85, 69] : List UInt8)) = false := beq_eq_false_iff_ne.mpr c9
                  have c9b1 : (a0.toList != ([84, 82, 85, 69] : List UInt8)) = true := bne_iff_ne.mpr c9
                  by_cases c10 : a0.toList = ([102, 97, 108, 115, 101] : List UInt8)
                  · rw [if_pos c10] at H
                    have c10b0 : (a0.toList == ([102, 97, 108, 115, 101] : List UInt8)) = true := beq_iff_eq.mpr c10
                    have c10b1 : (a0.toList != ([102, 97, 108, 115, 101] : List UInt8)) = false := bne_eq_false_iff_eq.mpr c10
                    clear c10
                    obtain rfl := Option.some.inj H
                    go_enter Tryd.func16, Tryd.ntmps16
                    go_wp2
                    go_ret
                    exact ⟨by first | rfl | (simp; done) | (simp [*]; done) | (simp [xbne_nil, xbeq_nil]; done), by repeat (first | exact Drawn0.refl _ | apply Drawn0.step)⟩
                  · rw [if_neg c10] at H
                    have c10b0 : (a0.toList == ([102, 97, 108, 115, 101] : List UInt8)) = false := beq_eq_false_iff_ne.mpr c10
                    have c10b1 : (a0.toList != ([102, 97, 108, 115, 101] : List UInt8)) = true := bne_iff_ne.mpr c10
                    by_cases c11 : a0.toList = ([70, 97, 108, 115, 101] : List UInt8)
                    · rw [if_pos c11] at H
                      have c11b0 : (a0.toList == ([70, 97, 108, 115, 101] : List UInt8)) = true := beq_iff_eq.mpr c11
                      have c11b1 : (a0.toList != ([70, 97, 108, 115, 101] : List UInt8)) = false := bne_eq_false_iff_eq.mpr c11
                      clear c11
                      obtain rfl := Option.some.inj H
                      go_enter Tryd.func16, Tryd.ntmps16
                      go_wp2
                      go_ret
                      exact ⟨by first | rfl | (simp; done) | (simp [*]; done) | (simp [xbne_nil, xbeq_nil]; done), by repeat (first | exact Drawn0.refl _ | apply Drawn0.step)⟩
                    · rw [if_neg c11] at H
                      have c11b0 : (a0.toList == ([70, 97, 108, 115, 101] : List UInt8)) = false := beq_eq_false_iff_ne.mpr c11
                      have c11b1 : (a0.toList != ([70, 97, 108, 115, 101] : List UInt8)) = true := bne_iff_ne.mpr c11
                      by_cases c12 : a0.toList = ([70, 65, 76, 83, 69] : List UInt8)
                      · rw [if_pos c12] at H
                        have c12b0 : (a0.toList == ([70, 65, 76, 83, 69] : List UInt8)) = true := beq_iff_eq.mpr c12
                        have c12b1 : (a0.toList != ([70, 65, 76, 83, 69] : List UInt8)) = false := bne_eq_false_iff_eq.mpr c12
                        clear c12
                        obtain rfl := Option.some.inj H
                        go_enter Tryd.func16, Tryd.ntmps16
                        go_wp2
                        go_ret
                        exact ⟨by first | rfl | (simp; done) | (simp [*]; done) | (simp [xbne_nil, xbeq_nil]; done), by repeat (first | exact Drawn0.refl _ | apply Drawn0.step)⟩
                      · rw [if_neg c12] at H
                        have c12b0 : (a0.toList == ([70, 65, 76, 83, 69] : List UInt8)) = false := beq_eq_false_iff_ne.mpr c12
                        have c12b1 : (a0.toList != ([70, 65, 76, 83, 69] : List UInt8)) = true := bne_iff_ne.mpr c12
                        by_cases c13 : a0.toList = ([46, 110, 97, 110] : List UInt8)
                        · rw [if_pos c13] at H
                          have c13b0 : (a0.toList == ([46, 110, 97, 110] : List UInt8)) = true := beq_iff_eq.mpr c13
                          have c13b1 : (a0.toList != ([46, 110, 97, 110] : List UInt8)) = false := bne_eq_false_iff_eq.mpr c13
                          clear c13
                          obtain rfl := Option.some.inj H
                          go_enter Tryd.func16, Tryd.ntmps16
                          go_wp2
                          go_ret
                          exact ⟨by first | rfl | (simp; done) | (simp [*]; done) | (simp [xbne_nil, xbeq_nil]; done), by repeat (first | exact Drawn0.refl _ | apply Drawn0.step)⟩
                        · rw [if_neg c13] at H
                          have c13b0 : (a0.toList == ([46, 110, 97, 110] : List UInt8)) = false := beq_eq_false_iff_ne.mpr c13
                          have c13b1 : (a0.toList != ([46, 110, 97, 110] : List UInt8)) = true := bne_iff_ne.mpr c13
                          by_cases c14 : a0.toList = ([46, 78, 97, 78] : List UInt8)
                          · rw [if_pos c14] at H
                            have c14b0 : (a0.toList == ([46, 78, 97, 78] : List UInt8)) = true := beq_iff_eq.mpr c14
                            have c14b1 : (a0.toList != ([46, 78, 97, 78] : List UInt8)) = false := bne_eq_false_iff_eq.mpr c14
                            clear c14
                            obtain rfl := Option.some.inj H
                            go_enter Tryd.func16, Tryd.ntmps16
                            go_wp2
                            go_ret
                            exact ⟨by first | rfl | (simp; done) | (simp [*]; done) | (simp [xbne_nil, xbeq_nil]; done), by repeat (first | exact Drawn0.refl _ | apply Drawn0.step)⟩
                          · rw [if_neg c14] at H
                            have c14b0 : (a0.toList == ([46, 78, 97, 78] : List UInt8)) = false := beq_eq_false_iff_ne.mpr c14
                            have c14b1 : (a0.toList != ([46, 78, 97, 78] : List UInt8)) = true := bne_iff_ne.mpr c14
                            by_cases c15 : a0.toList = ([46, 78, 65, 78] : List UInt8)
                            · rw [if_pos c15] at H
                              have c15b0 : (a0.toList == ([46, 78, 65, 78] : List UInt8)) = true := beq_iff_eq.mpr c15
                              have c15b1 : (a0.toList != ([46, 78, 65, 78] : List UInt8)) = false := bne_eq_false_iff_eq.mpr c15
                              clear c15
                              obtain rfl := Option.some.inj H
                              go_enter Tryd.func16, Tryd.ntmps16
                              go_wp2
                              go_ret
                              exact ⟨by first | rfl | (simp; done) | (simp [*]; done) | (simp [xbne_nil, xbeq_nil]; done), by repeat (first | exact Drawn0.refl _ | apply Drawn0.step)⟩
                            · rw [if_neg c15] at H
                              have c15b0 : (a0.toList == ([46, 78, 65, 78] : List UInt8)) = false := beq_eq_false_iff_ne.mpr c15
                              have c15b1 : (a0.toList != ([46, 78, 65, 78] : List UInt8)) = true := bne_iff_ne.mpr c15
                              replace H := Option.bind_eq_some_iff.mp H
                              obtain ⟨t126, A160, H⟩ := H
                              replace H : (if t126.toList = ([46, 105, 110, 102] : List UInt8) then (some (⟨#[102, 108, 111, 97, 116]⟩ : ByteArray)) else (if t126.toList = ([46, 73, 110, 102] : List UInt8) then (some (⟨#[102, 108, 111, 97, 116]⟩ : ByteArray)) else (if t126.toList = ([46, 73, 78, 70] : List UInt8) then (some (⟨#[102, 108, 111, 97, 116]⟩ : ByteArray)) else ((tag_whole.f k a0).bind fun t127 => (if t127 = true then (some (⟨#[105, 110, 116]⟩ : ByteArray)) else ((tag_real.f k a0).bind fun t128 => (if t128 = true then (some (⟨#[102, 108, 111, 97, 116]⟩ : ByteArray)) else (some (⟨#[115, 116, 114]⟩ : ByteArray))))))))) = some r := H
                              have A16 := Aside0.mk A160
                              clear A160
                              by_cases c17 : t126.toList = ([46, 105, 110, 102] : List UInt8)
                              · rw [if_pos c17] at H
                                have c17b0 : (t126.toList == ([46, 105, 110, 102] : List UInt8)) = true := beq_iff_eq.mpr c17
                                have c17b1 : (t126.toList != ([46, 105, 110, 102] : List UInt8)) = false := bne_eq_false_iff_eq.mpr c17
                                clear c17
                                obtain rfl := Option.some.inj H
                                go_enter Tryd.func16, Tryd.ntmps16
                                go_wp2_with (first | ((with_reducible refine gate_callee (f := 63) rfl ?_); refine goesL_ (some 22) rfl rfl Tryd.func63 (by kernel_rfl) rfl #[.string a0] rfl (by (try simp only [List.map_toArray, List.map_cons, List.map_nil]); first | done | rfl | (simp only [List.length_drop, List.length_take]; rfl)) ?_; (with_reducible refine (tag_sign.calls a0 t126 _ A16.out).mono ?_); rintro e w' ⟨rfl, ⟨nd, rfl⟩⟩; refine ⟨_, rfl, ?_⟩))
                                go_ret
                                exact ⟨by first | rfl | (simp; done) | (simp [*]; done) | (simp [xbne_nil, xbeq_nil]; done), by repeat (first | exact Drawn0.refl _ | apply Drawn0.step)⟩
                              · rw [if_neg c17] at H
                                have c17b0 : (t126.toList == ([46, 105, 110, 102] : List UInt8)) = false := beq_eq_false_iff_ne.mpr c17
                                have c17b1 : (t126.toList != ([46, 105, 110, 102] : List UInt8)) = true := bne_iff_ne.mpr c17
                                by_cases c18 : t126.toList = ([46, 73, 110, 102] : List UInt8)
                                · rw [if_pos c18] at H
                                  have c18b0 : (t126.toList == ([46, 73, 110, 102] : List UInt8)) = true := beq_iff_eq.mpr c18
                                  have c18b1 : (t126.toList != ([46, 73, 110, 102] : List UInt8)) = false := bne_eq_false_iff_eq.mpr c18
                                  clear c18
                                  obtain rfl := Option.some.inj H
                                  go_enter Tryd.func16, Tryd.ntmps16
                                  go_wp2_with (first | ((with_reducible refine gate_callee (f := 63) rfl ?_); refine goesL_ (some 22) rfl rfl Tryd.func63 (by kernel_rfl) rfl #[.string a0] rfl (by (try simp only [List.map_toArray, List.map_cons, List.map_nil]); first | done | rfl | (simp only [List.length_drop, List.length_take]; rfl)) ?_; (with_reducible refine (tag_sign.calls a0 t126 _ A16.out).mono ?_); rintro e w' ⟨rfl, ⟨nd, rfl⟩⟩; refine ⟨_, rfl, ?_⟩))
                                  go_ret
                                  exact ⟨by first | rfl | (simp; done) | (simp [*]; done) | (simp [xbne_nil, xbeq_nil]; done), by repeat (first | exact Drawn0.refl _ | apply Drawn0.step)⟩
                                · rw [if_neg c18] at H
                                  have c18b0 : (t126.toList == ([46, 73, 110, 102] : List UInt8)) = false := beq_eq_false_iff_ne.mpr c18
                                  have c18b1 : (t126.toList != ([46, 73, 110, 102] : List UInt8)) = true := bne_iff_ne.mpr c18
                                  by_cases c19 : t126.toList = ([46, 73, 78, 70] : List UInt8)
                                  · rw [if_pos c19] at H
                                    have c19b0 : (t126.toList == ([46, 73, 78, 70] : List UInt8)) = true := beq_iff_eq.mpr c19
                                    have c19b1 : (t126.toList != ([46, 73, 78, 70] : List UInt8)) = false := bne_eq_false_iff_eq.mpr c19
                                    clear c19
                                    obtain rfl := Option.some.inj H
                                    go_enter Tryd.func16, Tryd.ntmps16
                                    go_wp2_with (first | ((with_reducible refine gate_callee (f := 63) rfl ?_); refine goesL_ (some 22) rfl rfl Tryd.func63 (by kernel_rfl) rfl #[.string a0] rfl (by (try simp only [List.map_toArray, List.map_cons, List.map_nil]); first | done | rfl | (simp only [List.length_drop, List.length_take]; rfl)) ?_; (with_reducible refine (tag_sign.calls a0 t126 _ A16.out).mono ?_); rintro e w' ⟨rfl, ⟨nd, rfl⟩⟩; refine ⟨_, rfl, ?_⟩))
                                    go_ret
                                    exact ⟨by first | rfl | (simp; done) | (simp [*]; done) | (simp [xbne_nil, xbeq_nil]; done), by repeat (first | exact Drawn0.refl _ | apply Drawn0.step)⟩
                                  · rw [if_neg c19] at H
                                    have c19b0 : (t126.toList == ([46, 73, 78, 70] : List UInt8)) = false := beq_eq_false_iff_ne.mpr c19
                                    have c19b1 : (t126.toList != ([46, 73, 78, 70] : List UInt8)) = true := bne_iff_ne.mpr c19
                                    replace H := Option.bind_eq_some_iff.mp H
                                    obtain ⟨t127, A200, H⟩ := H
                                    replace H : (if t127 = true then (some (⟨#[105, 110, 116]⟩ : ByteArray)) else ((tag_real.f k a0).bind fun t128 => (if t128 = true then (some (⟨#[102, 108, 111, 97, 116]⟩ : ByteArray)) else (some (⟨#[115, 116, 114]⟩ : ByteArray))))) = some r := H
                                    have A20 := Aside0.mk A200
                                    clear A200
                                    by_cases c21 : t127 = true
                                    · subst c21
                                      have H1 : (some (⟨#[105, 110, 116]⟩ : ByteArray)) = some r := by rw [if_pos rfl] at H; exact H
                                      clear H
                                      have H := H1
                                      clear H1
                                      obtain rfl := Option.some.inj H
                                      go_enter Tryd.func16, Tryd.ntmps16
                                      go_wp2_with (first | ((with_reducible refine gate_callee (f := 63) rfl ?_); refine goesL_ (some 22) rfl rfl Tryd.func63 (by kernel_rfl) rfl #[.string a0] rfl (by (try simp only [List.map_toArray, List.map_cons, List.map_nil]); first | done | rfl | (simp only [List.length_drop, List.length_take]; rfl)) ?_; (with_reducible refine (tag_sign.calls a0 t126 _ A16.out).mono ?_); rintro e w' ⟨rfl, ⟨nd, rfl⟩⟩; refine ⟨_, rfl, ?_⟩) | ((with_reducible refine gate_callee (f := 64) rfl ?_); refine goesL_ (some 29) rfl rfl Tryd.func64 (by kernel_rfl) rfl #[.string a0] rfl (by (try simp only [List.map_toArray, List.map_cons, List.map_nil]); first | done | rfl | (simp only [List.length_drop, List.length_take]; rfl)) ?_; (with_reducible refine (tag_whole.calls k a0 true _ A20.out).mono ?_); rintro e w' ⟨rfl, ⟨nd, rfl⟩⟩; refine ⟨_, rfl, ?_⟩))
                                      go_ret
                                      exact ⟨by first | rfl | (simp; done) | (simp [*]; done) | (simp [xbne_nil, xbeq_nil]; done), by repeat (first | exact Drawn0.refl _ | apply Drawn0.step)⟩
                                    · replace c21 := Bool.eq_false_iff.mpr c21
                                      subst c21
                                      have H1 : ((tag_real.f k a0).bind fun t128 => (if t128 = true then (some (⟨#[102, 108, 111, 97, 116]⟩ : ByteArray)) else (some (⟨#[115, 116, 114]⟩ : ByteArray)))) = some r := by rw [if_neg (show ¬ (false = true) by decide)] at H; exact H
                                      clear H
                                      have H := H1
                                      clear H1
                                      replace H := Option.bind_eq_some_iff.mp H
                                      obtain ⟨t128, A220, H⟩ := H
                                      replace H : (if t128 = true then (some (⟨#[102, 108, 111, 97, 116]⟩ : ByteArray)) else (some (⟨#[115, 116, 114]⟩ : ByteArray))) = some r := H
                                      have A22 := Aside0.mk A220
                                      clear A220
                                      by_cases c23 : t128 = true
                                      · subst c23
                                        have H1 : (some (⟨#[102, 108, 111, 97, 116]⟩ : ByteArray)) = some r := by rw [if_pos rfl] at H; exact H
                                        clear H
                                        have H := H1
                                        clear H1
                                        obtain rfl := Option.some.inj H
                                        go_enter Tryd.func16, Tryd.ntmps16
                                        go_wp2_with (first | ((with_reducible refine gate_callee (f := 63) rfl ?_); refine goesL_ (some 22) rfl rfl Tryd.func63 (by kernel_rfl) rfl #[.string a0] rfl (by (try simp only [List.map_toArray, List.map_cons, List.map_nil]); first | done | rfl | (simp only [List.length_drop, List.length_take]; rfl)) ?_; (with_reducible refine (tag_sign.calls a0 t126 _ A16.out).mono ?_); rintro e w' ⟨rfl, ⟨nd, rfl⟩⟩; refine ⟨_, rfl, ?_⟩) | ((with_reducible refine gate_callee (f := 64) rfl ?_); refine goesL_ (some 29) rfl rfl Tryd.func64 (by kernel_rfl) rfl #[.string a0] rfl (by (try simp only [List.map_toArray, List.map_cons, List.map_nil]); first | done | rfl | (simp only [List.length_drop, List.length_take]; rfl)) ?_; (with_reducible refine (tag_whole.calls k a0 false _ A20.out).mono ?_); rintro e w' ⟨rfl, ⟨nd, rfl⟩⟩; refine ⟨_, rfl, ?_⟩) | ((with_reducible refine gate_callee (f := 65) rfl ?_); refine goesL_ (some 32) rfl rfl Tryd.func65 (by kernel_rfl) rfl #[.string a0] rfl (by (try simp only [List.map_toArray, List.map_cons, List.map_nil]); first | done | rfl | (simp only [List.length_drop, List.length_take]; rfl)) ?_; (with_reducible refine (tag_real.calls k a0 true _ A22.out).mono ?_); rintro e w' ⟨rfl, ⟨nd, rfl⟩⟩; refine ⟨_, rfl, ?_⟩))
                                        go_ret
                                        exact ⟨by first | rfl | (simp; done) | (simp [*]; done) | (simp [xbne_nil, xbeq_nil]; done), by repeat (first | exact Drawn0.refl _ | apply Drawn0.step)⟩
                                      · replace c23 := Bool.eq_false_iff.mpr c23
                                        subst c23
                                        have H1 : (some (⟨#[115, 116, 114]⟩ : ByteArray)) = some r := by rw [if_neg (show ¬ (false = true) by decide)] at H; exact H
                                        clear H
                                        have H := H1
                                        clear H1
                                        obtain rfl := Option.some.inj H
                                        go_enter Tryd.func16, Tryd.ntmps16
                                        go_wp2_with (first | ((with_reducible refine gate_callee (f := 63) rfl ?_); refine goesL_ (some 22) rfl rfl Tryd.func63 (by kernel_rfl) rfl #[.string a0] rfl (by (try simp only [List.map_toArray, List.map_cons, List.map_nil]); first | done | rfl | (simp only [List.length_drop, List.length_take]; rfl)) ?_; (with_reducible refine (tag_sign.calls a0 t126 _ A16.out).mono ?_); rintro e w' ⟨rfl, ⟨nd, rfl⟩⟩; refine ⟨_, rfl, ?_⟩) | ((with_reducible refine gate_callee (f := 64) rfl ?_); refine goesL_ (some 29) rfl rfl Tryd.func64 (by kernel_rfl) rfl #[.string a0] rfl (by (try simp only [List.map_toArray, List.map_cons, List.map_nil]); first | done | rfl | (simp only [List.length_drop, List.length_take]; rfl)) ?_; (with_reducible refine (tag_whole.calls k a0 false _ A20.out).mono ?_); rintro e w' ⟨rfl, ⟨nd, rfl⟩⟩; refine ⟨_, rfl, ?_⟩) | ((with_reducible refine gate_callee (f := 65) rfl ?_); refine goesL_ (some 32) rfl rfl Tryd.func65 (by kernel_rfl) rfl #[.string a0] rfl (by (try simp only [List.map_toArray, List.map_cons, List.map_nil]); first | done | rfl | (simp only [List.length_drop, List.length_take]; rfl)) ?_; (with_reducible refine (tag_real.calls k a0 false _ A22.out).mono ?_); rintro e w' ⟨rfl, ⟨nd, rfl⟩⟩; refine ⟨_, rfl, ?_⟩))
                                        go_ret
                                        exact ⟨by first | rfl | (simp; done) | (simp [*]; done) | (simp [xbne_nil, xbeq_nil]; done), by repeat (first | exact Drawn0.refl _ | apply Drawn0.step)⟩
def tag_plain.f (a0 : ByteArray) : Option (Bool) := if a0.toList = ([110, 117, 108, 108] : List UInt8) then (some true) else (if a0.toList = ([98, 111, 111, 108] : List UInt8) then (some true) else (if a0.toList = ([105, 110, 116] : List UInt8) then (some true) else (some (a0.toList == ([102, 108, 111, 97, 116] : List UInt8)))))
set_option maxHeartbeats 8000000 in
set_option maxRecDepth 100000 in
theorem tag_plain.calls (a0 : ByteArray) (r : Bool) (w : World) (h : tag_plain.f a0 = some r) :
    Calls Tryd.prog 95 #[.string a0] w fun e w' => e = .returned (.bool r) ∧ Drawn0 w w' := by
  have H : (if a0.toList = ([110, 117, 108, 108] : List UInt8) then (some true) else (if a0.toList = ([98, 111, 111, 108] : List UInt8) then (some true) else (if a0.toList = ([105, 110, 116] : List UInt8) then (some true) else (some (a0.toList == ([102, 108, 111, 97, 116] : List UInt8)))))) = some r := h
  clear h
  by_cases c2 : a0.toList = ([110, 117, 108, 108] : List UInt8)
  · rw [if_pos c2] at H
    have c2b0 : (a0.toList == ([110, 117, 108, 108] : List UInt8)) = true := beq_iff_eq.mpr c2
    have c2b1 : (a0.toList != ([110, 117, 108, 108] : List UInt8)) = false := bne_eq_false_iff_eq.mpr c2
    clear c2
    obtain rfl := Option.some.inj H
    go_enter Tryd.func95, Tryd.ntmps95
    go_wp2
    go_ret
    exact ⟨by first | rfl | (simp; done) | (simp [*]; done) | (simp [xbne_nil, xbeq_nil]; done), by repeat (first | exact Drawn0.refl _ | apply Drawn0.step)⟩
  · rw [if_neg c2] at H
    have c2b0 : (a0.toList == ([110, 117, 108, 108] : List UInt8)) = false := beq_eq_false_iff_ne.mpr c2
    have c2b1 : (a0.toList != ([110, 117, 108, 108] : List UInt8)) = true := bne_iff_ne.mpr c2
    by_cases c3 : a0.toList = ([98, 111, 111, 108] : List UInt8)
    · rw [if_pos c3] at H
      have c3b0 : (a0.toList == ([98, 111, 111, 108] : List UInt8)) = true := beq_iff_eq.mpr c3
      have c3b1 : (a0.toList != ([98, 111, 111, 108] : List UInt8)) = false := bne_eq_false_iff_eq.mpr c3
      clear c3
      obtain rfl := Option.some.inj H
      go_enter Tryd.func95, Tryd.ntmps95
      go_wp2
      go_ret
      exact ⟨by first | rfl | (simp; done) | (simp [*]; done) | (simp [xbne_nil, xbeq_nil]; done), by repeat (first | exact Drawn0.refl _ | apply Drawn0.step)⟩
    · rw [if_neg c3] at H
      have c3b0 : (a0.toList == ([98, 111, 111, 108] : List UInt8)) = false := beq_eq_false_iff_ne.mpr c3
      have c3b1 : (a0.toList != ([98, 111, 111, 108] : List UInt8)) = true := bne_iff_ne.mpr c3
      by_cases c4 : a0.toList = ([105, 110, 116] : List UInt8)
      · rw [if_pos c4] at H
        have c4b0 : (a0.toList == ([105, 110, 116] : List UInt8)) = true := beq_iff_eq.mpr c4
        have c4b1 : (a0.toList != ([105, 110, 116] : List UInt8)) = false := bne_eq_false_iff_eq.mpr c4
        clear c4
        obtain rfl := Option.some.inj H
        go_enter Tryd.func95, Tryd.ntmps95
        go_wp2
        go_ret
        exact ⟨by first | rfl | (simp; done) | (simp [*]; done) | (simp [xbne_nil, xbeq_nil]; done), by repeat (first | exact Drawn0.refl _ | apply Drawn0.step)⟩
      · rw [if_neg c4] at H
        have c4b0 : (a0.toList == ([105, 110, 116] : List UInt8)) = false := beq_eq_false_iff_ne.mpr c4
        have c4b1 : (a0.toList != ([105, 110, 116] : List UInt8)) = true := bne_iff_ne.mpr c4
        obtain rfl := Option.some.inj H
        go_enter Tryd.func95, Tryd.ntmps95
        go_wp2
        go_ret
        exact ⟨by first | rfl | (simp; done) | (simp [*]; done) | (simp [xbne_nil, xbeq_nil]; done), by repeat (first | exact Drawn0.refl _ | apply Drawn0.step)⟩
end Go.Proofs.YthgafcaoibfchaaDoor.X
end
section
namespace Go.Proofs.YthgafcaoibfchaaDoor.X
open Go.RowKit Go.Proofs.YthgafcaoibfchaaDoorW.PrintWords Go.Proofs.YthgafcaoibfchaaDoorW.PrintLast Go.Proofs.YthgafcaoibfchaaDoorW.PrintMore
attribute [local go_sem] max2_int min2_int max_two min_two max_three min_three max_four min_four
set_option linter.unusedVariables false
set_option linter.unusedSimpArgs false
def tag_Core.f (a0 : ByteArray) : Option (Bool) := if a0.toList = ([115, 101, 113] : List UInt8) then (some true) else (if a0.toList = ([109, 97, 112] : List UInt8) then (some true) else (if a0.toList = ([115, 116, 114] : List UInt8) then (some true) else ((tag_plain.f a0).bind fun t129 => (some t129))))
set_option maxHeartbeats 8000000 in
set_option maxRecDepth 100000 in
theorem tag_Core.calls (a0 : ByteArray) (r : Bool) (w : World) (h : tag_Core.f a0 = some r) :
    Calls Tryd.prog 53 #[.string a0] w fun e w' => e = .returned (.bool r) ∧ Drawn0 w w' := by
  have H : (if a0.toList = ([115, 101, 113] : List UInt8) then (some true) else (if a0.toList = ([109, 97, 112] : List UInt8) then (some true) else (if a0.toList = ([115, 116, 114] : List UInt8) then (some true) else ((tag_plain.f a0).bind fun t129 => (some t129))))) = some r := h
  clear h
  by_cases c2 : a0.toList = ([115, 101, 113] : List UInt8)
  · rw [if_pos c2] at H
    have c2b0 : (a0.toList == ([115, 101, 113] : List UInt8)) = true := beq_iff_eq.mpr c2
    have c2b1 : (a0.toList != ([115, 101, 113] : List UInt8)) = false := bne_eq_false_iff_eq.mpr c2
    clear c2
    obtain rfl := Option.some.inj H
    go_enter Tryd.func53, Tryd.ntmps53
    go_wp2
    go_ret
    exact ⟨by first | rfl | (simp; done) | (simp [*]; done) | (simp [xbne_nil, xbeq_nil]; done), by repeat (first | exact Drawn0.refl _ | apply Drawn0.step)⟩
  · rw [if_neg c2] at H
    have c2b0 : (a0.toList == ([115, 101, 113] : List UInt8)) = false := beq_eq_false_iff_ne.mpr c2
    have c2b1 : (a0.toList != ([115, 101, 113] : List UInt8)) = true := bne_iff_ne.mpr c2
    by_cases c3 : a0.toList = ([109, 97, 112] : List UInt8)
    · rw [if_pos c3] at H
      have c3b0 : (a0.toList == ([109, 97, 112] : List UInt8)) = true := beq_iff_eq.mpr c3
      have c3b1 : (a0.toList != ([109, 97, 112] : List UInt8)) = false := bne_eq_false_iff_eq.mpr c3
      clear c3
      obtain rfl := Option.some.inj H
      go_enter Tryd.func53, Tryd.ntmps53
      go_wp2
      go_ret
      exact ⟨by first | rfl | (simp; done) | (simp [*]; done) | (simp [xbne_nil, xbeq_nil]; done), by repeat (first | exact Drawn0.refl _ | apply Drawn0.step)⟩
    · rw [if_neg c3] at H
      have c3b0 : (a0.toList == ([109, 97, 112] : List UInt8)) = false := beq_eq_false_iff_ne.mpr c3
      have c3b1 : (a0.toList != ([109, 97, 112] : List UInt8)) = true := bne_iff_ne.mpr c3
      by_cases c4 : a0.toList = ([115, 116, 114] : List UInt8)
      · rw [if_pos c4] at H
        have c4b0 : (a0.toList == ([115, 116, 114] : List UInt8)) = true := beq_iff_eq.mpr c4
        have c4b1 : (a0.toList != ([115, 116, 114] : List UInt8)) = false := bne_eq_false_iff_eq.mpr c4
        clear c4
        obtain rfl := Option.some.inj H
        go_enter Tryd.func53, Tryd.ntmps53
        go_wp2
        go_ret
        exact ⟨by first | rfl | (simp; done) | (simp [*]; done) | (simp [xbne_nil, xbeq_nil]; done), by repeat (first | exact Drawn0.refl _ | apply Drawn0.step)⟩
      · rw [if_neg c4] at H
        have c4b0 : (a0.toList == ([115, 116, 114] : List UInt8)) = false := beq_eq_false_iff_ne.mpr c4
        have c4b1 : (a0.toList != ([115, 116, 114] : List UInt8)) = true := bne_iff_ne.mpr c4
        replace H := Option.bind_eq_some_iff.mp H
        obtain ⟨t129, A50, H⟩ := H
        replace H : (some t129) = some r := H
        have A5 := Aside0.mk A50
        clear A50
        obtain rfl := Option.some.inj H
        go_enter Tryd.func53, Tryd.ntmps53
        go_wp2_with (first | ((with_reducible refine gate_callee (f := 95) rfl ?_); refine goesL_ (some 9) rfl rfl Tryd.func95 (by kernel_rfl) rfl #[.string a0] rfl (by (try simp only [List.map_toArray, List.map_cons, List.map_nil]); first | done | rfl | (simp only [List.length_drop, List.length_take]; rfl)) ?_; (with_reducible refine (tag_plain.calls a0 t129 _ A5.out).mono ?_); rintro e w' ⟨rfl, ⟨nd, rfl⟩⟩; refine ⟨_, rfl, ?_⟩))
        go_ret
        exact ⟨by first | rfl | (simp; done) | (simp [*]; done) | (simp [xbne_nil, xbeq_nil]; done), by repeat (first | exact Drawn0.refl _ | apply Drawn0.step)⟩
def tag_own.g (t : ByteArray) (b : Bool) : Bool := b && !(t.toList == ([] : List UInt8)) && decide (t.size ≤ 40) && t.data.toList.all Own.nameByte
def tag_own.f (a0 : ByteArray) : Option (Bool) := (strings_CutPrefix.f a0 (⟨#[33]⟩ : ByteArray)).bind fun b => some (tag_own.g b.1 b.2)
set_option maxHeartbeats 2000000 in
theorem tag_own.calls (a0 : ByteArray) (r : Bool) (w : World) (h : tag_own.f a0 = some r) :
    Calls Tryd.prog 94 #[.string a0] w fun e w' => e = .returned (.bool r) ∧ Below w.heap.size w w' := by
  unfold tag_own.f at h
  obtain ⟨⟨t, b⟩, A20, H⟩ := Option.bind_eq_some_iff.mp h
  have A2 := Aside0.mk A20
  clear A20 h
  obtain rfl := Option.some.inj H
  clear H
  cases b with
  | false =>
    go_enter Tryd.func94, Tryd.ntmps94
    go_wp2_with ((go_at_call 93; (with_reducible refine (strings_CutPrefix.calls a0 (⟨#[33]⟩ : ByteArray) t false _ A2.out).mono ?_); rintro e w' ⟨rfl, ⟨nd, rfl⟩⟩))
    go_ret
    exact ⟨rfl, pw_below_drewN (Below.refl _ _) _⟩
  | true =>
    by_cases c1 : t.toList = ([] : List UInt8)
    · have c1b0 : (t.toList == ([] : List UInt8)) = true := beq_iff_eq.mpr c1
      have c1b1 : (t.toList != ([] : List UInt8)) = false := bne_eq_false_iff_eq.mpr c1
      have hg : Aside0 (tag_own.g t true = false) := ⟨by unfold tag_own.g; rw [c1b0]; rfl⟩
      clear c1
      go_enter Tryd.func94, Tryd.ntmps94
      go_wp2_with ((go_at_call 93; (with_reducible refine (strings_CutPrefix.calls a0 (⟨#[33]⟩ : ByteArray) t true _ A2.out).mono ?_); rintro e w' ⟨rfl, ⟨nd, rfl⟩⟩))
      go_ret
      exact ⟨by rw [hg.out]; rfl, pw_below_drewN (Below.refl _ _) _⟩
    · have c1b0 : (t.toList == ([] : List UInt8)) = false := beq_eq_false_iff_ne.mpr c1
      have c1b1 : (t.toList != ([] : List UInt8)) = true := bne_iff_ne.mpr c1
      by_cases c2 : t.size ≤ 40
      · have c2b0 : decide ((t.size : Int) ≤ 40) = true := decide_eq_true (by omega)
        have c2b1 : decide (t.size ≤ 40) = true := decide_eq_true c2
        have hg : Aside0 (tag_own.g t true = !decide (0 ≤ Lib.idxFunc (fun r => !Own.namedN r) true t)) := ⟨by unfold tag_own.g; rw [c1b0, c2b1, Own.contains_eq]; simp⟩
        clear c1 c2
        generalize hI : decide (0 ≤ Lib.idxFunc (fun r => !Own.namedN r) true t) = I at hg
        have hI2 := Aside0.mk hI
        clear hI
        go_enter Tryd.func94, Tryd.ntmps94
        go_wp2_with (first | (go_at_call 93; (with_reducible refine (strings_CutPrefix.calls a0 (⟨#[33]⟩ : ByteArray) t true _ A2.out).mono ?_); rintro e w' ⟨rfl, ⟨nd, rfl⟩⟩) | (go_at_call 120; (with_reducible refine (Own.contains_calls t _).mono ?_); rintro e w' ⟨rfl, hb⟩))
        go_ret
        exact ⟨by rw [hg.out, hI2.out]; rfl, (pw_below_drewN (Below.refl _ _) _).trans hb⟩
      · have c2b0 : decide ((t.size : Int) ≤ 40) = false := decide_eq_false (by omega)
        have c2b1 : decide (t.size ≤ 40) = false := decide_eq_false c2
        have hg : Aside0 (tag_own.g t true = false) := ⟨by unfold tag_own.g; rw [c1b0, c2b1]; rfl⟩
        clear c1 c2
        go_enter Tryd.func94, Tryd.ntmps94
        go_wp2_with ((go_at_call 93; (with_reducible refine (strings_CutPrefix.calls a0 (⟨#[33]⟩ : ByteArray) t true _ A2.out).mono ?_); rintro e w' ⟨rfl, ⟨nd, rfl⟩⟩))
        go_ret
        exact ⟨by rw [hg.out]; rfl, pw_below_drewN (Below.refl _ _) _⟩
def tag_Read.f (a0 : ByteArray) : Option (ByteArray × Int) := (strings_CutPrefix.f a0 (⟨#[33, 33]⟩ : ByteArray)).bind fun bt130 => (if bt130.2 = true then ((tag_Core.f bt130.1).bind fun t132 => (if t132 = true then (some (bt130.1, 0)) else (some ((⟨#[]⟩ : ByteArray), 14)))) else ((tag_own.f bt130.1).bind fun t133 => (if t133 = true then (some (bt130.1, 0)) else (some ((⟨#[]⟩ : ByteArray), 14)))))
set_option maxHeartbeats 8000000 in
set_option maxRecDepth 100000 in
theorem tag_Read.calls (a0 : ByteArray) (r1 : ByteArray) (r2 : Int) (w : World) (h : tag_Read.f a0 = some (r1, r2)) :
    Calls Tryd.prog 51 #[.string a0] w fun e w' => e = .returned (.tuple #[.string r1, .int .i64 r2]) ∧ Below w.heap.size w w' := by
  have HB := Aside0.mk (Below.refl w.heap.size w)
  have H : ((strings_CutPrefix.f a0 (⟨#[33, 33]⟩ : ByteArray)).bind fun bt130 => (if bt130.2 = true then ((tag_Core.f bt130.1).bind fun t132 => (if t132 = true then (some (bt130.1, 0)) else (some ((⟨#[]⟩ : ByteArray), 14)))) else ((tag_own.f bt130.1).bind fun t133 => (if t133 = true then (some (bt130.1, 0)) else (some ((⟨#[]⟩ : ByteArray), 14)))))) = some (r1, r2) := h
  clear h
  replace H := Option.bind_eq_some_iff.mp H
  obtain ⟨⟨t130, t131⟩, A20, H⟩ := H
  replace H : (if t131 = true then ((tag_Core.f t130).bind fun t132 => (if t132 = true then (some (t130, 0)) else (some ((⟨#[]⟩ : ByteArray), 14)))) else ((tag_own.f t130).bind fun t133 => (if t133 = true then (some (t130, 0)) else (some ((⟨#[]⟩ : ByteArray), 14))))) = some (r1, r2) := H
  have A2 := Aside0.mk A20
  clear A20
  by_cases c3 : t131 = true
  · subst c3
    have H1 : ((tag_Core.f t130).bind fun t132 => (if t132 = true then (some (t130, 0)) else (some ((⟨#[]⟩ : ByteArray), 14)))) = some (r1, r2) := by rw [if_pos rfl] at H; exact H
    clear H
    have H := H1
    clear H1
    replace H := Option.bind_eq_some_iff.mp H
    obtain ⟨t132, A40, H⟩ := H
    replace H : (if t132 = true then (some (t130, 0)) else (some ((⟨#[]⟩ : ByteArray), 14))) = some (r1, r2) := H
    have A4 := Aside0.mk A40
    clear A40
    by_cases c5 : t132 = true
    · subst c5
      have H1 : (some (t130, 0)) = some (r1, r2) := by rw [if_pos rfl] at H; exact H
      clear H
      have H := H1
      clear H1
      simp only [Option.some.injEq, Prod.mk.injEq] at H
      obtain ⟨rfl, rfl⟩ := H
      go_enter Tryd.func51, Tryd.ntmps51
      go_wp2_with (first | ((with_reducible refine gate_callee (f := 93) rfl ?_); refine goesL_ (some 8) rfl rfl Tryd.func93 (by kernel_rfl) rfl #[.string a0, .string (⟨#[33, 33]⟩ : ByteArray)] rfl (by (try simp only [List.map_toArray, List.map_cons, List.map_nil]); first | done | rfl | (simp only [List.length_drop, List.length_take]; rfl)) ?_; (with_reducible refine (strings_CutPrefix.calls a0 (⟨#[33, 33]⟩ : ByteArray) t130 true _ A2.out).mono ?_); rintro e w' ⟨rfl, ⟨nd, rfl⟩⟩; refine ⟨_, rfl, ?_⟩) | (go_at_call 53; (with_reducible refine (tag_Core.calls t130 true _ A4.out).mono ?_); rintro e w' ⟨rfl, ⟨nd, rfl⟩⟩))
      go_ret2
      exact ⟨by first | rfl | (simp [errW_none, errW_some] <;> rfl) | (simp [*, errW_none, errW_some] <;> rfl), by repeat (first | (with_reducible first | exact HB.out | apply below_alloc | apply pw_below_drewN | apply below_drew1) | exact HB.out)⟩
    · replace c5 := Bool.eq_false_iff.mpr c5
      subst c5
      have H1 : (some ((⟨#[]⟩ : ByteArray), 14)) = some (r1, r2) := by rw [if_neg (show ¬ (false = true) by decide)] at H; exact H
      clear H
      have H := H1
      clear H1
      simp only [Option.some.injEq, Prod.mk.injEq] at H
      obtain ⟨rfl, rfl⟩ := H
      go_enter Tryd.func51, Tryd.ntmps51
      go_wp2_with (first | ((with_reducible refine gate_callee (f := 93) rfl ?_); refine goesL_ (some 8) rfl rfl Tryd.func93 (by kernel_rfl) rfl #[.string a0, .string (⟨#[33, 33]⟩ : ByteArray)] rfl (by (try simp only [List.map_toArray, List.map_cons, List.map_nil]); first | done | rfl | (simp only [List.length_drop, List.length_take]; rfl)) ?_; (with_reducible refine (strings_CutPrefix.calls a0 (⟨#[33, 33]⟩ : ByteArray) t130 true _ A2.out).mono ?_); rintro e w' ⟨rfl, ⟨nd, rfl⟩⟩; refine ⟨_, rfl, ?_⟩) | (go_at_call 53; (with_reducible refine (tag_Core.calls t130 false _ A4.out).mono ?_); rintro e w' ⟨rfl, ⟨nd, rfl⟩⟩))
      go_ret2
      exact ⟨by first | rfl | (simp [errW_none, errW_some] <;> rfl) | (simp [*, errW_none, errW_some] <;> rfl), by repeat (first | (with_reducible first | exact HB.out | apply below_alloc | apply pw_below_drewN | apply below_drew1) | exact HB.out)⟩
  · replace c3 := Bool.eq_false_iff.mpr c3
    subst c3
    have H1 : ((tag_own.f t130).bind fun t133 => (if t133 = true then (some (t130, 0)) else (some ((⟨#[]⟩ : ByteArray), 14)))) = some (r1, r2) := by rw [if_neg (show ¬ (false = true) by decide)] at H; exact H
    clear H
    have H := H1
    clear H1
    replace H := Option.bind_eq_some_iff.mp H
    obtain ⟨t133, A60, H⟩ := H
    replace H : (if t133 = true then (some (t130, 0)) else (some ((⟨#[]⟩ : ByteArray), 14))) = some (r1, r2) := H
    have A6 := Aside0.mk A60
    clear A60
    by_cases c7 : t133 = true
    · subst c7
      have H1 : (some (t130, 0)) = some (r1, r2) := by rw [if_pos rfl] at H; exact H
      clear H
      have H := H1
      clear H1
      simp only [Option.some.injEq, Prod.mk.injEq] at H
      obtain ⟨rfl, rfl⟩ := H
      go_enter Tryd.func51, Tryd.ntmps51
      go_wp2_with (first | ((with_reducible refine gate_callee (f := 93) rfl ?_); refine goesL_ (some 8) rfl rfl Tryd.func93 (by kernel_rfl) rfl #[.string a0, .string (⟨#[33, 33]⟩ : ByteArray)] rfl (by (try simp only [List.map_toArray, List.map_cons, List.map_nil]); first | done | rfl | (simp only [List.length_drop, List.length_take]; rfl)) ?_; (with_reducible refine (strings_CutPrefix.calls a0 (⟨#[33, 33]⟩ : ByteArray) t130 false _ A2.out).mono ?_); rintro e w' ⟨rfl, ⟨nd, rfl⟩⟩; refine ⟨_, rfl, ?_⟩) | (go_at_call 94; (with_reducible refine (tag_own.calls t130 true _ A6.out).mono ?_); rintro e w8 ⟨rfl, hb⟩; have n0_ := Aside0.mk (below_step (by repeat (first | (with_reducible first | exact HB.out | apply below_alloc | apply pw_below_drewN | apply below_drew1) | exact HB.out)) hb); clear HB; have HB := n0_; clear n0_; (try clear hb); (try clear hb2); (try clear hk); (try clear hi)))
      go_ret2
      exact ⟨by first | rfl | (simp [errW_none, errW_some] <;> rfl) | (simp [*, errW_none, errW_some] <;> rfl), by repeat (first | (with_reducible first | exact HB.out | apply below_alloc | apply pw_below_drewN | apply below_drew1) | exact HB.out)⟩
    · replace c7 := Bool.eq_false_iff.mpr c7
      subst c7
      have H1 : (some ((⟨#[]⟩ : ByteArray), 14)) = some (r1, r2) := by rw [if_neg (show ¬ (false = true) by decide)] at H; exact H
      clear H
      have H := H1
      clear H1
      simp only [Option.some.injEq, Prod.mk.injEq] at H
      obtain ⟨rfl, rfl⟩ := H
      go_enter Tryd.func51, Tryd.ntmps51
      go_wp2_with (first | ((with_reducible refine gate_callee (f := 93) rfl ?_); refine goesL_ (some 8) rfl rfl Tryd.func93 (by kernel_rfl) rfl #[.string a0, .string (⟨#[33, 33]⟩ : ByteArray)] rfl (by (try simp only [List.map_toArray, List.map_cons, List.map_nil]); first | done | rfl | (simp only [List.length_drop, List.length_take]; rfl)) ?_; (with_reducible refine (strings_CutPrefix.calls a0 (⟨#[33, 33]⟩ : ByteArray) t130 false _ A2.out).mono ?_); rintro e w' ⟨rfl, ⟨nd, rfl⟩⟩; refine ⟨_, rfl, ?_⟩) | (go_at_call 94; (with_reducible refine (tag_own.calls t130 false _ A6.out).mono ?_); rintro e w9 ⟨rfl, hb⟩; have n0_ := Aside0.mk (below_step (by repeat (first | (with_reducible first | exact HB.out | apply below_alloc | apply pw_below_drewN | apply below_drew1) | exact HB.out)) hb); clear HB; have HB := n0_; clear n0_; (try clear hb); (try clear hb2); (try clear hk); (try clear hi)))
      go_ret2
      exact ⟨by first | rfl | (simp [errW_none, errW_some] <;> rfl) | (simp [*, errW_none, errW_some] <;> rfl), by repeat (first | (with_reducible first | exact HB.out | apply below_alloc | apply pw_below_drewN | apply below_drew1) | exact HB.out)⟩
def tag_Word.f (a0 : ByteArray) : Option (ByteArray) := (tag_Core.f a0).bind fun t134 => (if t134 = true then (if 2 + a0.size ≤ 9223372036854775807 then (some ((⟨#[33, 33]⟩ : ByteArray) ++ a0)) else (none)) else ((tag_own.f a0).bind fun t135 => (if t135 = true then (some a0) else (some (⟨#[]⟩ : ByteArray)))))
set_option maxHeartbeats 8000000 in
set_option maxRecDepth 100000 in
theorem tag_Word.calls (a0 : ByteArray) (r : ByteArray) (w : World) (h : tag_Word.f a0 = some r) :
    Calls Tryd.prog 52 #[.string a0] w fun e w' => e = .returned (.string r) ∧ Below w.heap.size w w' := by
  have HB := Aside0.mk (Below.refl w.heap.size w)
  have H : ((tag_Core.f a0).bind fun t134 => (if t134 = true then (if 2 + a0.size ≤ 9223372036854775807 then (some ((⟨#[33, 33]⟩ : ByteArray) ++ a0)) else (none)) else ((tag_own.f a0).bind fun t135 => (if t135 = true then (some a0) else (some (⟨#[]⟩ : ByteArray)))))) = some r := h
  clear h
  replace H := Option.bind_eq_some_iff.mp H
  obtain ⟨t134, A20, H⟩ := H
  replace H : (if t134 = true then (if 2 + a0.size ≤ 9223372036854775807 then (some ((⟨#[33, 33]⟩ : ByteArray) ++ a0)) else (none)) else ((tag_own.f a0).bind fun t135 => (if t135 = true then (some a0) else (some (⟨#[]⟩ : ByteArray))))) = some r := H
  have A2 := Aside0.mk A20
  clear A20
  by_cases c3 : t134 = true
  · subst c3
    have H1 : (if 2 + a0.size ≤ 9223372036854775807 then (some ((⟨#[33, 33]⟩ : ByteArray) ++ a0)) else (none)) = some r := by rw [if_pos rfl] at H; exact H
    clear H
    have H := H1
    clear H1
    by_cases c4 : 2 + a0.size ≤ 9223372036854775807
    · rw [if_pos c4] at H
      have c4b0 := eq_true c4
      have c4b1 : decide (2 + a0.size ≤ 9223372036854775807) = true := decide_eq_true c4
      try have c4b2 : (9223372036854775807 < 2 + a0.size) = False := eq_false (Nat.not_lt.2 c4)
      obtain rfl := Option.some.inj H
      go_enter Tryd.func52, Tryd.ntmps52
      go_wp2_with (first | ((with_reducible refine gate_callee (f := 53) rfl ?_); refine goesL_ (some 5) rfl rfl Tryd.func53 (by kernel_rfl) rfl #[.string a0] rfl (by (try simp only [List.map_toArray, List.map_cons, List.map_nil]); first | done | rfl | (simp only [List.length_drop, List.length_take]; rfl)) ?_; (with_reducible refine (tag_Core.calls a0 true _ A2.out).mono ?_); rintro e w' ⟨rfl, ⟨nd, rfl⟩⟩; refine ⟨_, rfl, ?_⟩))
      go_ret
      exact ⟨by first | rfl | (simp [errW_none, errW_some] <;> rfl) | (simp [*, errW_none, errW_some] <;> rfl), by repeat (first | (with_reducible first | exact HB.out | apply below_alloc | apply pw_below_drewN | apply below_drew1) | exact HB.out)⟩
    · rw [if_neg c4] at H
      exact absurd H (by simp)
  · replace c3 := Bool.eq_false_iff.mpr c3
    subst c3
    have H1 : ((tag_own.f a0).bind fun t135 => (if t135 = true then (some a0) else (some (⟨#[]⟩ : ByteArray)))) = some r := by rw [if_neg (show ¬ (false = true) by decide)] at H; exact H
    clear H
    have H := H1
    clear H1
    replace H := Option.bind_eq_some_iff.mp H
    obtain ⟨t135, A50, H⟩ := H
    replace H : (if t135 = true then (some a0) else (some (⟨#[]⟩ : ByteArray))) = some r := H
    have A5 := Aside0.mk A50
    clear A50
    by_cases c6 : t135 = true
    · subst c6
      have H1 : (some a0) = some r := by rw [if_pos rfl] at H; exact H
      clear H
      have H := H1
      clear H1
      obtain rfl := Option.some.inj H
      go_enter Tryd.func52, Tryd.ntmps52
      go_wp2_with (first | ((with_reducible refine gate_callee (f := 53) rfl ?_); refine goesL_ (some 5) rfl rfl Tryd.func53 (by kernel_rfl) rfl #[.string a0] rfl (by (try simp only [List.map_toArray, List.map_cons, List.map_nil]); first | done | rfl | (simp only [List.length_drop, List.length_take]; rfl)) ?_; (with_reducible refine (tag_Core.calls a0 false _ A2.out).mono ?_); rintro e w' ⟨rfl, ⟨nd, rfl⟩⟩; refine ⟨_, rfl, ?_⟩) | ((with_reducible refine gate_callee (f := 94) rfl ?_); refine goesL_ (some 10) rfl rfl Tryd.func94 (by kernel_rfl) rfl #[.string a0] rfl (by (try simp only [List.map_toArray, List.map_cons, List.map_nil]); first | done | rfl | (simp only [List.length_drop, List.length_take]; rfl)) ?_; (with_reducible refine (tag_own.calls a0 true _ A5.out).mono ?_); rintro e w7 ⟨rfl, hb⟩; refine ⟨_, rfl, ?_⟩; have n0_ := Aside0.mk (below_step (by repeat (first | (with_reducible first | exact HB.out | apply below_alloc | apply pw_below_drewN | apply below_drew1) | exact HB.out)) hb); clear HB; have HB := n0_; clear n0_; (try clear hb); (try clear hb2); (try clear hk); (try clear hi)))
      go_ret
      exact ⟨by first | rfl | (simp [errW_none, errW_some] <;> rfl) | (simp [*, errW_none, errW_some] <;> rfl), by repeat (first | (with_reducible first | exact HB.out | apply below_alloc | apply pw_below_drewN | apply below_drew1) | exact HB.out)⟩
    · replace c6 := Bool.eq_false_iff.mpr c6
      subst c6
      have H1 : (some (⟨#[]⟩ : ByteArray)) = some r := by rw [if_neg (show ¬ (false = true) by decide)] at H; exact H
      clear H
      have H := H1
      clear H1
      obtain rfl := Option.some.inj H
      go_enter Tryd.func52, Tryd.ntmps52
      go_wp2_with (first | ((with_reducible refine gate_callee (f := 53) rfl ?_); refine goesL_ (some 5) rfl rfl Tryd.func53 (by kernel_rfl) rfl #[.string a0] rfl (by (try simp only [List.map_toArray, List.map_cons, List.map_nil]); first | done | rfl | (simp only [List.length_drop, List.length_take]; rfl)) ?_; (with_reducible refine (tag_Core.calls a0 false _ A2.out).mono ?_); rintro e w' ⟨rfl, ⟨nd, rfl⟩⟩; refine ⟨_, rfl, ?_⟩) | ((with_reducible refine gate_callee (f := 94) rfl ?_); refine goesL_ (some 10) rfl rfl Tryd.func94 (by kernel_rfl) rfl #[.string a0] rfl (by (try simp only [List.map_toArray, List.map_cons, List.map_nil]); first | done | rfl | (simp only [List.length_drop, List.length_take]; rfl)) ?_; (with_reducible refine (tag_own.calls a0 false _ A5.out).mono ?_); rintro e w8 ⟨rfl, hb⟩; refine ⟨_, rfl, ?_⟩; have n0_ := Aside0.mk (below_step (by repeat (first | (with_reducible first | exact HB.out | apply below_alloc | apply pw_below_drewN | apply below_drew1) | exact HB.out)) hb); clear HB; have HB := n0_; clear n0_; (try clear hb); (try clear hb2); (try clear hk); (try clear hi)))
      go_ret
      exact ⟨by first | rfl | (simp [errW_none, errW_some] <;> rfl) | (simp [*, errW_none, errW_some] <;> rfl), by repeat (first | (with_reducible first | exact HB.out | apply below_alloc | apply pw_below_drewN | apply below_drew1) | exact HB.out)⟩
def tag_Right.f (a0 : ByteArray) : Option (Bool) := (tag_Core.f a0).bind fun t136 => (if t136 = true then (some true) else ((tag_own.f a0).bind fun t137 => (some t137)))
set_option maxHeartbeats 8000000 in
set_option maxRecDepth 100000 in
theorem tag_Right.calls (a0 : ByteArray) (r : Bool) (w : World) (h : tag_Right.f a0 = some r) :
    Calls Tryd.prog 54 #[.string a0] w fun e w' => e = .returned (.bool r) ∧ Below w.heap.size w w' := by
  have HB := Aside0.mk (Below.refl w.heap.size w)
  have H : ((tag_Core.f a0).bind fun t136 => (if t136 = true then (some true) else ((tag_own.f a0).bind fun t137 => (some t137)))) = some r := h
  clear h
  replace H := Option.bind_eq_some_iff.mp H
  obtain ⟨t136, A20, H⟩ := H
  replace H : (if t136 = true then (some true) else ((tag_own.f a0).bind fun t137 => (some t137))) = some r := H
  have A2 := Aside0.mk A20
  clear A20
  by_cases c3 : t136 = true
  · subst c3
    have H1 : (some true) = some r := by rw [if_pos rfl] at H; exact H
    clear H
    have H := H1
    clear H1
    obtain rfl := Option.some.inj H
    go_enter Tryd.func54, Tryd.ntmps54
    go_wp2_with (first | ((with_reducible refine gate_callee (f := 53) rfl ?_); refine goesL_ (some 4) rfl rfl Tryd.func53 (by kernel_rfl) rfl #[.string a0] rfl (by (try simp only [List.map_toArray, List.map_cons, List.map_nil]); first | done | rfl | (simp only [List.length_drop, List.length_take]; rfl)) ?_; (with_reducible refine (tag_Core.calls a0 true _ A2.out).mono ?_); rintro e w' ⟨rfl, ⟨nd, rfl⟩⟩; refine ⟨_, rfl, ?_⟩))
    go_ret
    exact ⟨by first | rfl | (simp [errW_none, errW_some] <;> rfl) | (simp [*, errW_none, errW_some] <;> rfl), by repeat (first | (with_reducible first | exact HB.out | apply below_alloc | apply pw_below_drewN | apply below_drew1) | exact HB.out)⟩
  · replace c3 := Bool.eq_false_iff.mpr c3
    subst c3
    have H1 : ((tag_own.f a0).bind fun t137 => (some t137)) = some r := by rw [if_neg (show ¬ (false = true) by decide)] at H; exact H
    clear H
    have H := H1
    clear H1
    replace H := Option.bind_eq_some_iff.mp H
    obtain ⟨t137, A40, H⟩ := H
    replace H : (some t137) = some r := H
    have A4 := Aside0.mk A40
    clear A40
    obtain rfl := Option.some.inj H
    go_enter Tryd.func54, Tryd.ntmps54
    go_wp2_with (first | ((with_reducible refine gate_callee (f := 53) rfl ?_); refine goesL_ (some 4) rfl rfl Tryd.func53 (by kernel_rfl) rfl #[.string a0] rfl (by (try simp only [List.map_toArray, List.map_cons, List.map_nil]); first | done | rfl | (simp only [List.length_drop, List.length_take]; rfl)) ?_; (with_reducible refine (tag_Core.calls a0 false _ A2.out).mono ?_); rintro e w' ⟨rfl, ⟨nd, rfl⟩⟩; refine ⟨_, rfl, ?_⟩) | (go_at_call 94; (with_reducible refine (tag_own.calls a0 t137 _ A4.out).mono ?_); rintro e w5 ⟨rfl, hb⟩; have n0_ := Aside0.mk (below_step (by repeat (first | (with_reducible first | exact HB.out | apply below_alloc | apply pw_below_drewN | apply below_drew1) | exact HB.out)) hb); clear HB; have HB := n0_; clear n0_; (try clear hb); (try clear hb2); (try clear hk); (try clear hi)))
    go_ret
    exact ⟨by first | rfl | (simp [errW_none, errW_some] <;> rfl) | (simp [*, errW_none, errW_some] <;> rfl), by repeat (first | (with_reducible first | exact HB.out | apply below_alloc | apply pw_below_drewN | apply below_drew1) | exact HB.out)⟩
end Go.Proofs.YthgafcaoibfchaaDoor.X
end
