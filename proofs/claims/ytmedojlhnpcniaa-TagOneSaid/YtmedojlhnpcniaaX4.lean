/- Printed by a program of ours (wip/tools) out of the translation: each function as a plain Lean function, and a proof that the call answers so. -/
import Derived.Test.YtmedojlhnpcniaaX0
import Derived.Test.YtmedojlhnpcniaaX1
import Derived.Test.YtmedojlhnpcniaaX2
import Derived.Test.YtmedojlhnpcniaaX3
namespace Go.Proofs.Ytmedojlhnpcniaa.X
open Go.RowKit Go.Proofs.YtmedojlhnpcniaaW.PrintWords Go.Proofs.YtmedojlhnpcniaaW.PrintLast Go.Proofs.YtmedojlhnpcniaaW.PrintMore
attribute [local go_sem] max2_int min2_int max_two min_two max_three min_three max_four min_four   -- for this text's walks alone
set_option linter.unusedVariables false
set_option linter.unusedSimpArgs false

/-! ### tag_real: function 22 -/
def tag_real.j0 : Nat → ByteArray → Int → Int → Option (Bool)
  | 0, _, _, _ => none
  | k + 1, x3, x4, x5 => if (wrap64 (x4 + x5)) = 0 then (some false) else (if x3.toList = ([] : List UInt8) then (some true) else (if 0 < (x3.size : Int) then (if (bt x3 0) = 101 then (if 1 ≤ (x3.size : Int) then ((tag_sign.f (x3.extract 1 x3.size)).bind fun t122 => ((tag_all.f k t122 10).bind fun t123 => (some t123))) else (none)) else (if (bt x3 0) = 69 then (if 1 ≤ (x3.size : Int) then ((tag_sign.f (x3.extract 1 x3.size)).bind fun t124 => ((tag_all.f k t124 10).bind fun t125 => (some t125))) else (none)) else (some false))) else (none)))
def tag_real.f (k : Nat) (a0 : ByteArray) : Option (Bool) := (tag_sign.f a0).bind fun t115 => ((tag_digits.f k t115 10).bind fun bt116 => ((strings_CutPrefix.f bt116.1 (⟨#[46]⟩ : ByteArray)).bind fun bt118 => (if bt118.2 = true then ((tag_digits.f k bt118.1 10).bind fun bt120 => (tag_real.j0 k bt120.1 bt116.2 bt120.2)) else (tag_real.j0 k bt116.1 bt116.2 0))))
theorem tag_real.mono_l : ∀ k, (∀ y0 y1 y2, LeO (tag_real.j0 k y0 y1 y2) (tag_real.j0 (k + 1) y0 y1 y2))
  | 0 => fun _ _ _ r h => by simp [tag_real.j0] at h
  | k + 1 => by
    have ih0 := tag_real.mono_l k
    · intro y0 y1 y2
      unfold tag_real.j0
      repeat' first
      | (with_reducible exact ih0 _ _ _)
      | (with_reducible exact tag_all.mono _ _ _)
      | (with_reducible exact tag_digits.mono _ _ _)
      | (with_reducible exact LeO.refl _)
      | (with_reducible exact LeO.none _)
      | (with_reducible refine LeO.ite ?_ ?_)
      | (with_reducible refine LeO.bind ?_ (fun _ => ?_))
      | exact ih0 _ _ _
      | exact tag_all.mono _ _ _
      | exact tag_digits.mono _ _ _
      | exact LeO.none _
      | refine LeO.ite ?_ ?_
      | refine LeO.bind ?_ (fun _ => ?_)
theorem tag_real.mono : ∀ a0 k, LeO (tag_real.f k a0) (tag_real.f (k + 1) a0) := by
  intro a0 k
  have ih0 := tag_real.mono_l k
  unfold tag_real.f
  repeat' first
      | (with_reducible exact ih0 _ _ _)
      | (with_reducible exact tag_all.mono _ _ _)
      | (with_reducible exact tag_digits.mono _ _ _)
      | (with_reducible exact LeO.refl _)
      | (with_reducible exact LeO.none _)
      | (with_reducible refine LeO.ite ?_ ?_)
      | (with_reducible refine LeO.bind ?_ (fun _ => ?_))
      | exact ih0 _ _ _
      | exact tag_all.mono _ _ _
      | exact tag_digits.mono _ _ _
      | exact LeO.none _
      | refine LeO.ite ?_ ?_
      | refine LeO.bind ?_ (fun _ => ?_)
set_option maxHeartbeats 8000000 in
set_option maxRecDepth 100000 in
theorem tag_real.calls (k : Nat) (a0 : ByteArray) (r : Bool) (w : World) (h : tag_real.f k a0 = some r) :
    Calls Try.prog 22 #[.string a0] w fun e w' => e = .returned (.bool r) ∧ Drawn0 w w' := by
  have H : ((tag_sign.f a0).bind fun t115 => ((tag_digits.f k t115 10).bind fun bt116 => ((strings_CutPrefix.f bt116.1 (⟨#[46]⟩ : ByteArray)).bind fun bt118 => (if bt118.2 = true then ((tag_digits.f k bt118.1 10).bind fun bt120 => (tag_real.j0 k bt120.1 bt116.2 bt120.2)) else (tag_real.j0 k bt116.1 bt116.2 0))))) = some r := h
  clear h
  replace H := Option.bind_eq_some_iff.mp H
  obtain ⟨t115, A20, H⟩ := H
  replace H : ((tag_digits.f k t115 10).bind fun bt116 => ((strings_CutPrefix.f bt116.1 (⟨#[46]⟩ : ByteArray)).bind fun bt118 => (if bt118.2 = true then ((tag_digits.f k bt118.1 10).bind fun bt120 => (tag_real.j0 k bt120.1 bt116.2 bt120.2)) else (tag_real.j0 k bt116.1 bt116.2 0)))) = some r := H
  have A2 := Aside0.mk A20
  clear A20
  replace H := Option.bind_eq_some_iff.mp H
  obtain ⟨⟨t116, t117⟩, A30, H⟩ := H
  replace H : ((strings_CutPrefix.f t116 (⟨#[46]⟩ : ByteArray)).bind fun bt118 => (if bt118.2 = true then ((tag_digits.f k bt118.1 10).bind fun bt120 => (tag_real.j0 k bt120.1 t117 bt120.2)) else (tag_real.j0 k t116 t117 0))) = some r := H
  have A3 := Aside0.mk A30
  clear A30
  replace H := Option.bind_eq_some_iff.mp H
  obtain ⟨⟨t118, t119⟩, A40, H⟩ := H
  replace H : (if t119 = true then ((tag_digits.f k t118 10).bind fun bt120 => (tag_real.j0 k bt120.1 t117 bt120.2)) else (tag_real.j0 k t116 t117 0)) = some r := H
  have A4 := Aside0.mk A40
  clear A40
  have HC5 := Aside0.mk H
  clear H
  go_enter Try.func22, Try.ntmps22
  go_upto_if 19 with (first | ((with_reducible refine gate_callee (f := 20) rfl ?_); refine goesL_ (some 10) rfl rfl Try.func20 (by kernel_rfl) rfl #[.string a0] rfl (by (try simp only [List.map_toArray, List.map_cons, List.map_nil]); first | done | rfl | (simp only [List.length_drop, List.length_take]; rfl)) ?_; (with_reducible refine (tag_sign.calls a0 t115 _ A2.out).mono ?_); rintro e w' ⟨rfl, ⟨nd, rfl⟩⟩; refine ⟨_, rfl, ?_⟩) | ((with_reducible refine gate_callee (f := 32) rfl ?_); refine goesL_ (some 11) rfl rfl Try.func32 (by kernel_rfl) rfl #[.string t115, .int .i64 10] rfl (by (try simp only [List.map_toArray, List.map_cons, List.map_nil]); first | done | rfl | (simp only [List.length_drop, List.length_take]; rfl)) ?_; (with_reducible refine (tag_digits.calls k t115 10 t116 t117 _ A3.out).mono ?_); rintro e w' ⟨rfl, ⟨nd, rfl⟩⟩; refine ⟨_, rfl, ?_⟩) | ((with_reducible refine gate_callee (f := 29) rfl ?_); refine goesL_ (some 16) rfl rfl Try.func29 (by kernel_rfl) rfl #[.string t116, .string (⟨#[46]⟩ : ByteArray)] rfl (by (try simp only [List.map_toArray, List.map_cons, List.map_nil]); first | done | rfl | (simp only [List.length_drop, List.length_take]; rfl)) ?_; (with_reducible refine (strings_CutPrefix.calls t116 (⟨#[46]⟩ : ByteArray) t118 t119 _ A4.out).mono ?_); rintro e w' ⟨rfl, ⟨nd, rfl⟩⟩; refine ⟨_, rfl, ?_⟩))
  (try simp only [Act.put, List.setIfInBounds_toArray, List.set_cons_zero, List.set_cons_succ])
  go_cut [3, 5] (fun v3 v5 wc => ∃ (kq : Nat) (x3_4 : ByteArray) (x5_4 : Int), v3 = .string x3_4 ∧ v5 = .int .i64 x5_4 ∧ Aside0 (tag_real.j0 kq x3_4 t117 x5_4 = some r) ∧ Aside0 (kq ≤ k) ∧ Drawn0 w wc)
  case first =>
    have H := HC5.out
    clear HC5
    by_cases c6 : t119 = true
    · subst c6
      have H1 : ((tag_digits.f k t118 10).bind fun bt120 => (tag_real.j0 k bt120.1 t117 bt120.2)) = some r := by rw [if_pos rfl] at H; exact H
      clear H
      have H := H1
      clear H1
      replace H := Option.bind_eq_some_iff.mp H
      obtain ⟨⟨t120, t121⟩, A70, H⟩ := H
      replace H : (tag_real.j0 k t120 t117 t121) = some r := H
      have A7 := Aside0.mk A70
      clear A70
      have H' := Aside0.mk H
      clear H
      go_wp2_with (first | ((with_reducible refine gate_callee (f := 32) rfl ?_); refine goesL_ (some 22) rfl rfl Try.func32 (by kernel_rfl) rfl #[.string t118, .int .i64 10] rfl (by (try simp only [List.map_toArray, List.map_cons, List.map_nil]); first | done | rfl | (simp only [List.length_drop, List.length_take]; rfl)) ?_; (with_reducible refine (tag_digits.calls k t118 10 t120 t121 _ A7.out).mono ?_); rintro e w' ⟨rfl, ⟨nd, rfl⟩⟩; refine ⟨_, rfl, ?_⟩))
      go_meet
      case rel => exact ⟨_, (t120), (t121), (by first | rfl | (simp; done) | (simp [*]; done) | (simp [xbne_nil, xbeq_nil]; done)), (by first | rfl | (simp; done) | (simp [*]; done) | (simp [xbne_nil, xbeq_nil]; done)), H', ⟨by first | omega | exact Nat.le_refl _⟩, by repeat (first | exact Drawn0.refl _ | apply Drawn0.step)⟩
    · replace c6 := Bool.eq_false_iff.mpr c6
      subst c6
      have H1 : (tag_real.j0 k t116 t117 0) = some r := by rw [if_neg (show ¬ (false = true) by decide)] at H; exact H
      clear H
      have H := H1
      clear H1
      have H' := Aside0.mk H
      clear H
      go_wp2
      go_meet
      case rel => exact ⟨_, (t116), (0), (by first | rfl | (simp; done) | (simp [*]; done) | (simp [xbne_nil, xbeq_nil]; done)), (by first | rfl | (simp; done) | (simp [*]; done) | (simp [xbne_nil, xbeq_nil]; done)), H', ⟨by first | omega | exact Nat.le_refl _⟩, by repeat (first | exact Drawn0.refl _ | apply Drawn0.step)⟩
  case rest =>
    clear HC5
    try clear c2
    try clear p2
    try clear c3
    try clear c6
    obtain ⟨kq, x3_4, x5_4, rfl, rfl, HA, HJ4, ⟨mc4, rfl⟩⟩ := hcut
    cases kq with
    | zero => exact absurd HA.out (by simp [tag_real.j0])
    | succ kj4 =>
      have H := HA.out
      clear HA
      simp only [tag_real.j0] at H
      by_cases c8 : (wrap64 (t117 + x5_4)) = 0
      · rw [if_pos c8] at H
        have c8b0 : ((wrap64 (t117 + x5_4)) == 0) = true := beq_iff_eq.mpr c8
        have c8b1 : ((wrap64 (t117 + x5_4)) != 0) = false := bne_eq_false_iff_eq.mpr c8
        clear c8
        obtain rfl := Option.some.inj H
        go_wp2
        go_ret
        exact ⟨by first | rfl | (simp; done) | (simp [*]; done) | (simp [xbne_nil, xbeq_nil]; done), by repeat (first | exact Drawn0.refl _ | apply Drawn0.step)⟩
      · rw [if_neg c8] at H
        have c8b0 : ((wrap64 (t117 + x5_4)) == 0) = false := beq_eq_false_iff_ne.mpr c8
        have c8b1 : ((wrap64 (t117 + x5_4)) != 0) = true := bne_iff_ne.mpr c8
        by_cases c9 : x3_4.toList = ([] : List UInt8)
        · rw [if_pos c9] at H
          have c9b0 : (x3_4.toList == ([] : List UInt8)) = true := beq_iff_eq.mpr c9
          have c9b1 : (x3_4.toList != ([] : List UInt8)) = false := bne_eq_false_iff_eq.mpr c9
          clear c9
          obtain rfl := Option.some.inj H
          go_wp2
          go_ret
          exact ⟨by first | rfl | (simp; done) | (simp [*]; done) | (simp [xbne_nil, xbeq_nil]; done), by repeat (first | exact Drawn0.refl _ | apply Drawn0.step)⟩
        · rw [if_neg c9] at H
          have c9b0 : (x3_4.toList == ([] : List UInt8)) = false := beq_eq_false_iff_ne.mpr c9
          have c9b1 : (x3_4.toList != ([] : List UInt8)) = true := bne_iff_ne.mpr c9
          by_cases c10 : 0 < (x3_4.size : Int)
          · rw [if_pos c10] at H
            have c10b0 : decide (0 < (x3_4.size : Int)) = true := decide_eq_true c10
            have c10b1 : decide (0 < x3_4.size) = true := decide_eq_true (by omega)
            clear c10
            by_cases c12 : (bt x3_4 0) = 101
            · rw [if_pos c12] at H
              have c12b0 : ((bt x3_4 0) == 101) = true := beq_iff_eq.mpr c12
              have c12b1 : ((bt x3_4 0) != 101) = false := bne_eq_false_iff_eq.mpr c12
              clear c12
              by_cases c13 : 1 ≤ (x3_4.size : Int)
              · rw [if_pos c13] at H
                have c13b0 := eq_true c13
                have c13b1 : decide (1 ≤ (x3_4.size : Int)) = true := decide_eq_true c13
                clear c13
                replace H := Option.bind_eq_some_iff.mp H
                obtain ⟨t122, A140, H⟩ := H
                replace H : ((tag_all.f kj4 t122 10).bind fun t123 => (some t123)) = some r := H
                have A14 := Aside0.mk A140
                clear A140
                replace H := Option.bind_eq_some_iff.mp H
                obtain ⟨t123, A150, H⟩ := H
                replace H : (some t123) = some r := H
                have A15 := Aside0.mk A150
                clear A150
                obtain rfl := Option.some.inj H
                have p11 : 0 ≤ (0 : Int) := (by omega)
                have q11 : 0 < x3_4.size := (by have : (0 : Int) < (x3_4.size : Int) := of_decide_eq_true (by first | (with_reducible assumption) | assumption); omega)
                have hx11 : ∀ h : 0 < x3_4.size, ((x3_4[0]'h).toNat : Int) = bt x3_4 0 := bt_at x3_4 0
                clear p11
                have qi11 : (0 < (x3_4.size : Int)) = True := eq_true (of_decide_eq_true (by first | (with_reducible assumption) | assumption))
                replace q11 := eq_true q11
                go_wp2_with (first | (go_at_call 20; (with_reducible refine (tag_sign.calls (x3_4.extract 1 x3_4.size) t122 _ A14.out).mono ?_); rintro e w' ⟨rfl, ⟨nd, rfl⟩⟩) | (go_at_call 31; (with_reducible refine (tag_all.calls kj4 t122 10 t123 _ A15.out).mono ?_); rintro e w' ⟨rfl, ⟨nd, rfl⟩⟩))
                go_ret
                exact ⟨by first | rfl | (simp; done) | (simp [*]; done) | (simp [xbne_nil, xbeq_nil]; done), by repeat (first | exact Drawn0.refl _ | apply Drawn0.step)⟩
              · rw [if_neg c13] at H
                exact absurd H (by simp)
            · rw [if_neg c12] at H
              have c12b0 : ((bt x3_4 0) == 101) = false := beq_eq_false_iff_ne.mpr c12
              have c12b1 : ((bt x3_4 0) != 101) = true := bne_iff_ne.mpr c12
              by_cases c17 : (bt x3_4 0) = 69
              · rw [if_pos c17] at H
                have c17b0 : ((bt x3_4 0) == 69) = true := beq_iff_eq.mpr c17
                have c17b1 : ((bt x3_4 0) != 69) = false := bne_eq_false_iff_eq.mpr c17
                clear c17
                by_cases c18 : 1 ≤ (x3_4.size : Int)
                · rw [if_pos c18] at H
                  have c18b0 := eq_true c18
                  have c18b1 : decide (1 ≤ (x3_4.size : Int)) = true := decide_eq_true c18
                  clear c18
                  replace H := Option.bind_eq_some_iff.mp H
                  obtain ⟨t124, A190, H⟩ := H
                  replace H : ((tag_all.f kj4 t124 10).bind fun t125 => (some t125)) = some r := H
                  have A19 := Aside0.mk A190
                  clear A190
                  replace H := Option.bind_eq_some_iff.mp H
                  obtain ⟨t125, A200, H⟩ := H
                  replace H : (some t125) = some r := H
                  have A20 := Aside0.mk A200
                  clear A200
                  obtain rfl := Option.some.inj H
                  have p11 : 0 ≤ (0 : Int) := (by omega)
                  have q11 : 0 < x3_4.size := (by have : (0 : Int) < (x3_4.size : Int) := of_decide_eq_true (by first | (with_reducible assumption) | assumption); omega)
                  have hx11 : ∀ h : 0 < x3_4.size, ((x3_4[0]'h).toNat : Int) = bt x3_4 0 := bt_at x3_4 0
                  clear p11
                  have qi11 : (0 < (x3_4.size : Int)) = True := eq_true (of_decide_eq_true (by first | (with_reducible assumption) | assumption))
                  replace q11 := eq_true q11
                  have p16 : 0 ≤ (0 : Int) := (by omega)
                  have q16 : 0 < x3_4.size := (by have : (0 : Int) < (x3_4.size : Int) := of_decide_eq_true (by first | (with_reducible assumption) | assumption); omega)
                  have hx16 : ∀ h : 0 < x3_4.size, ((x3_4[0]'h).toNat : Int) = bt x3_4 0 := bt_at x3_4 0
                  clear p16
                  have qi16 : (0 < (x3_4.size : Int)) = True := eq_true (of_decide_eq_true (by first | (with_reducible assumption) | assumption))
                  replace q16 := eq_true q16
                  go_wp2_with (first | (go_at_call 20; (with_reducible refine (tag_sign.calls (x3_4.extract 1 x3_4.size) t124 _ A19.out).mono ?_); rintro e w' ⟨rfl, ⟨nd, rfl⟩⟩) | (go_at_call 31; (with_reducible refine (tag_all.calls kj4 t124 10 t125 _ A20.out).mono ?_); rintro e w' ⟨rfl, ⟨nd, rfl⟩⟩))
                  go_ret
                  exact ⟨by first | rfl | (simp; done) | (simp [*]; done) | (simp [xbne_nil, xbeq_nil]; done), by repeat (first | exact Drawn0.refl _ | apply Drawn0.step)⟩
                · rw [if_neg c18] at H
                  exact absurd H (by simp)
              · rw [if_neg c17] at H
                have c17b0 : ((bt x3_4 0) == 69) = false := beq_eq_false_iff_ne.mpr c17
                have c17b1 : ((bt x3_4 0) != 69) = true := bne_iff_ne.mpr c17
                obtain rfl := Option.some.inj H
                have p11 : 0 ≤ (0 : Int) := (by omega)
                have q11 : 0 < x3_4.size := (by have : (0 : Int) < (x3_4.size : Int) := of_decide_eq_true (by first | (with_reducible assumption) | assumption); omega)
                have hx11 : ∀ h : 0 < x3_4.size, ((x3_4[0]'h).toNat : Int) = bt x3_4 0 := bt_at x3_4 0
                clear p11
                have qi11 : (0 < (x3_4.size : Int)) = True := eq_true (of_decide_eq_true (by first | (with_reducible assumption) | assumption))
                replace q11 := eq_true q11
                have p16 : 0 ≤ (0 : Int) := (by omega)
                have q16 : 0 < x3_4.size := (by have : (0 : Int) < (x3_4.size : Int) := of_decide_eq_true (by first | (with_reducible assumption) | assumption); omega)
                have hx16 : ∀ h : 0 < x3_4.size, ((x3_4[0]'h).toNat : Int) = bt x3_4 0 := bt_at x3_4 0
                clear p16
                have qi16 : (0 < (x3_4.size : Int)) = True := eq_true (of_decide_eq_true (by first | (with_reducible assumption) | assumption))
                replace q16 := eq_true q16
                go_wp2
                go_ret
                exact ⟨by first | rfl | (simp; done) | (simp [*]; done) | (simp [xbne_nil, xbeq_nil]; done), by repeat (first | exact Drawn0.refl _ | apply Drawn0.step)⟩
          · rw [if_neg c10] at H
            exact absurd H (by simp)

end Go.Proofs.Ytmedojlhnpcniaa.X
