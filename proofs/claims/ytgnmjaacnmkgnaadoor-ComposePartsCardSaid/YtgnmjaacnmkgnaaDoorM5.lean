/- Words and walks that the row of ComposeParts needs: printed by programs, and plain laws. -/
import Derived.Test.YtgnmjaacnmkgnaaDoorM4
import Derived.Test.YtgnmjaacnmkgnaaDoorM1
import Derived.Lib.Strings
import Derived.Test.YtgnmjaacnmkgnaaDoorM3
namespace Go.Proofs.YtgnmjaacnmkgnaaDoorW.PrintWords
end Go.Proofs.YtgnmjaacnmkgnaaDoorW.PrintWords
namespace Go.Proofs.YtgnmjaacnmkgnaaDoorW.PrintLast
end Go.Proofs.YtgnmjaacnmkgnaaDoorW.PrintLast
namespace Go.Proofs.YtgnmjaacnmkgnaaDoorW.PrintMore
end Go.Proofs.YtgnmjaacnmkgnaaDoorW.PrintMore
namespace Go.Proofs.YtgnmjaacnmkgnaaDoor.Bytes
end Go.Proofs.YtgnmjaacnmkgnaaDoor.Bytes
namespace Go.Proofs.YtgnmjaacnmkgnaaDoor.T
end Go.Proofs.YtgnmjaacnmkgnaaDoor.T
namespace Go.Proofs.YtgnmjaacnmkgnaaDoor.Plain
end Go.Proofs.YtgnmjaacnmkgnaaDoor.Plain
section
namespace Go.Proofs.YtgnmjaacnmkgnaaDoor.T
open Go.RowKit Go.Proofs.YtgnmjaacnmkgnaaDoorW.PrintWords Go.Proofs.YtgnmjaacnmkgnaaDoorW.PrintLast Go.Proofs.YtgnmjaacnmkgnaaDoorW.PrintMore
attribute [local go_sem] max2_int min2_int max_two min_two
set_option linter.unusedVariables false
set_option linter.unusedSimpArgs false
def tag_real.j0 : Nat → ByteArray → Int → Int → Option (Bool)
  | 0, _, _, _ => none
  | k + 1, x3, x4, x5 => if (wrap64 (x4 + x5)) = 0 then (some false) else (if x3.toList = ([] : List UInt8) then (some true) else (if 0 < (x3.size : Int) then (if (bt x3 0) = 101 then (if 1 ≤ (x3.size : Int) then ((tag_sign.f (x3.extract 1 x3.size)).bind fun t127 => ((tag_all.f k t127 10).bind fun t128 => (some t128))) else (none)) else (if (bt x3 0) = 69 then (if 1 ≤ (x3.size : Int) then ((tag_sign.f (x3.extract 1 x3.size)).bind fun t129 => ((tag_all.f k t129 10).bind fun t130 => (some t130))) else (none)) else (some false))) else (none)))
def tag_real.f (k : Nat) (a0 : ByteArray) : Option (Bool) := (tag_sign.f a0).bind fun t120 => ((tag_digits.f k t120 10).bind fun bt121 => ((strings_CutPrefix.f bt121.1 (⟨#[46]⟩ : ByteArray)).bind fun bt123 => (if bt123.2 = true then ((tag_digits.f k bt123.1 10).bind fun bt125 => (tag_real.j0 k bt125.1 bt121.2 bt125.2)) else (tag_real.j0 k bt121.1 bt121.2 0))))
set_option maxHeartbeats 8000000 in
set_option maxRecDepth 100000 in
theorem tag_real.calls (k : Nat) (a0 : ByteArray) (r : Bool) (w : World) (h : tag_real.f k a0 = some r) :
    Calls Tryd.prog 49 #[.string a0] w fun e w' => e = .returned (.bool r) ∧ Drawn0 w w' := by
  have H : ((tag_sign.f a0).bind fun t120 => ((tag_digits.f k t120 10).bind fun bt121 => ((strings_CutPrefix.f bt121.1 (⟨#[46]⟩ : ByteArray)).bind fun bt123 => (if bt123.2 = true then ((tag_digits.f k bt123.1 10).bind fun bt125 => (tag_real.j0 k bt125.1 bt121.2 bt125.2)) else (tag_real.j0 k bt121.1 bt121.2 0))))) = some r := h
  clear h
  replace H := Option.bind_eq_some_iff.mp H
  obtain ⟨t120, A20, H⟩ := H
  replace H : ((tag_digits.f k t120 10).bind fun bt121 => ((strings_CutPrefix.f bt121.1 (⟨#[46]⟩ : ByteArray)).bind fun bt123 => (if bt123.2 = true then ((tag_digits.f k bt123.1 10).bind fun bt125 => (tag_real.j0 k bt125.1 bt121.2 bt125.2)) else (tag_real.j0 k bt121.1 bt121.2 0)))) = some r := H
  have A2 := Aside0.mk A20
  clear A20
  replace H := Option.bind_eq_some_iff.mp H
  obtain ⟨⟨t121, t122⟩, A30, H⟩ := H
  replace H : ((strings_CutPrefix.f t121 (⟨#[46]⟩ : ByteArray)).bind fun bt123 => (if bt123.2 = true then ((tag_digits.f k bt123.1 10).bind fun bt125 => (tag_real.j0 k bt125.1 t122 bt125.2)) else (tag_real.j0 k t121 t122 0))) = some r := H
  have A3 := Aside0.mk A30
  clear A30
  replace H := Option.bind_eq_some_iff.mp H
  obtain ⟨⟨t123, t124⟩, A40, H⟩ := H
  replace H : (if t124 = true then ((tag_digits.f k t123 10).bind fun bt125 => (tag_real.j0 k bt125.1 t122 bt125.2)) else (tag_real.j0 k t121 t122 0)) = some r := H
  have A4 := Aside0.mk A40
  clear A40
  have HC5 := Aside0.mk H
  clear H
  go_enter Tryd.func49, Tryd.ntmps49
  go_upto_if 19 with (first | ((with_reducible refine gate_callee (f := 47) rfl ?_); refine goesL_ (some 10) rfl rfl Tryd.func47 (by kernel_rfl) rfl #[.string a0] rfl (by (try simp only [List.map_toArray, List.map_cons, List.map_nil]); first | done | rfl | (simp only [List.length_drop, List.length_take]; rfl)) ?_; (with_reducible refine (tag_sign.calls a0 t120 _ A2.out).mono ?_); rintro e w' ⟨rfl, ⟨nd, rfl⟩⟩; refine ⟨_, rfl, ?_⟩) | ((with_reducible refine gate_callee (f := 81) rfl ?_); refine goesL_ (some 11) rfl rfl Tryd.func81 (by kernel_rfl) rfl #[.string t120, .int .i64 10] rfl (by (try simp only [List.map_toArray, List.map_cons, List.map_nil]); first | done | rfl | (simp only [List.length_drop, List.length_take]; rfl)) ?_; (with_reducible refine (tag_digits.calls k t120 10 t121 t122 _ A3.out).mono ?_); rintro e w' ⟨rfl, ⟨nd, rfl⟩⟩; refine ⟨_, rfl, ?_⟩) | ((with_reducible refine gate_callee (f := 79) rfl ?_); refine goesL_ (some 16) rfl rfl Tryd.func79 (by kernel_rfl) rfl #[.string t121, .string (⟨#[46]⟩ : ByteArray)] rfl (by (try simp only [List.map_toArray, List.map_cons, List.map_nil]); first | done | rfl | (simp only [List.length_drop, List.length_take]; rfl)) ?_; (with_reducible refine (strings_CutPrefix.calls t121 (⟨#[46]⟩ : ByteArray) t123 t124 _ A4.out).mono ?_); rintro e w' ⟨rfl, ⟨nd, rfl⟩⟩; refine ⟨_, rfl, ?_⟩))
  (try simp only [Act.put, List.setIfInBounds_toArray, List.set_cons_zero, List.set_cons_succ])
  go_cut [3, 5] (fun v3 v5 wc => ∃ (kq : Nat) (x3_4 : ByteArray) (x5_4 : Int), v3 = .string x3_4 ∧ v5 = .int .i64 x5_4 ∧ Aside0 (tag_real.j0 kq x3_4 t122 x5_4 = some r) ∧ Aside0 (kq ≤ k) ∧ Drawn0 w wc)
  case first =>
    have H := HC5.out
    clear HC5
    by_cases c6 : t124 = true
    · subst c6
      have H1 : ((tag_digits.f k t123 10).bind fun bt125 => (tag_real.j0 k bt125.1 t122 bt125.2)) = some r := by rw [if_pos rfl] at H; exact H
      clear H
      have H := H1
      clear H1
      replace H := Option.bind_eq_some_iff.mp H
      obtain ⟨⟨t125, t126⟩, A70, H⟩ := H
      replace H : (tag_real.j0 k t125 t122 t126) = some r := H
      have A7 := Aside0.mk A70
      clear A70
      have H' := Aside0.mk H
      clear H
      go_wp2_with (first | ((with_reducible refine gate_callee (f := 81) rfl ?_); refine goesL_ (some 22) rfl rfl Tryd.func81 (by kernel_rfl) rfl #[.string t123, .int .i64 10] rfl (by (try simp only [List.map_toArray, List.map_cons, List.map_nil]); first | done | rfl | (simp only [List.length_drop, List.length_take]; rfl)) ?_; (with_reducible refine (tag_digits.calls k t123 10 t125 t126 _ A7.out).mono ?_); rintro e w' ⟨rfl, ⟨nd, rfl⟩⟩; refine ⟨_, rfl, ?_⟩))
      go_meet
      case rel => exact ⟨_, (t125), (t126), (by first | rfl | (simp; done) | (simp [*]; done) | (simp [xbne_nil, xbeq_nil]; done)), (by first | rfl | (simp; done) | (simp [*]; done) | (simp [xbne_nil, xbeq_nil]; done)), H', ⟨by first | omega | exact Nat.le_refl _⟩, by repeat (first | exact Drawn0.refl _ | apply Drawn0.step)⟩
    · replace c6 := Bool.eq_false_iff.mpr c6
      subst c6
      have H1 : (tag_real.j0 k t121 t122 0) = some r := by rw [if_neg (show ¬ (false = true) by decide)] at H; exact H
      clear H
      have H := H1
      clear H1
      have H' := Aside0.mk H
      clear H
      go_wp2
      go_meet
      case rel => exact ⟨_, (t121), (0), (by first | rfl | (simp; done) | (simp [*]; done) | (simp [xbne_nil, xbeq_nil]; done)), (by first | rfl | (simp; done) | (simp [*]; done) | (simp [xbne_nil, xbeq_nil]; done)), H', ⟨by first | omega | exact Nat.le_refl _⟩, by repeat (first | exact Drawn0.refl _ | apply Drawn0.step)⟩
  case rest =>
    clear HC5
    try clear p2
    try clear c4
    try clear c6
    try clear c7
    obtain ⟨kq, x3_4, x5_4, rfl, rfl, HA, HJ4, ⟨mc4, rfl⟩⟩ := hcut
    cases kq with
    | zero => exact absurd HA.out (by simp [tag_real.j0])
    | succ kj4 =>
      have H := HA.out
      clear HA
      simp only [tag_real.j0] at H
      by_cases c8 : (wrap64 (t122 + x5_4)) = 0
      · rw [if_pos c8] at H
        have c8b0 : ((wrap64 (t122 + x5_4)) == 0) = true := beq_iff_eq.mpr c8
        have c8b1 : ((wrap64 (t122 + x5_4)) != 0) = false := bne_eq_false_iff_eq.mpr c8
        clear c8
        obtain rfl := Option.some.inj H
        go_wp2
        go_ret
        exact ⟨by first | rfl | (simp; done) | (simp [*]; done) | (simp [xbne_nil, xbeq_nil]; done), by repeat (first | exact Drawn0.refl _ | apply Drawn0.step)⟩
      · rw [if_neg c8] at H
        have c8b0 : ((wrap64 (t122 + x5_4)) == 0) = false := beq_eq_false_iff_ne.mpr c8
        have c8b1 : ((wrap64 (t122 + x5_4)) != 0) = true := bne_iff_ne.mpr c8
        by_cases c9 : x3_4.toList = ([] : List UInt8)
        · rw [if_pos c9] at H
          have c9b0 : (x3_4.toList == ([] : List UInt8)) = true := beq_iff_eq.mpr c9
          have c9b1 : (x3_4.toList != ([] : List UInt8)) = false := bne_eq_false_iff_eq.mpr c9
          clear c9
          obtain rfl := Option.some.inj H
          go_wp2
          go_ret
          exact ⟨by first | rfl | (simp; done) | (simp [*]; done) | (simp [xbne_nil, xbeq_nil]; done), by repeat (first | exact Drawn0.refl _ | apply Drawn0.step)⟩
        · rw [if_neg c9] at H
          have c9b0 : (x3_4.toList == ([] : List UInt8)) = false := beq_eq_false_iff_ne.mpr c9
          have c9b1 : (x3_4.toList != ([] : List UInt8)) = true := bne_iff_ne.mpr c9
          by_cases c10 : 0 < (x3_4.size : Int)
          · rw [if_pos c10] at H
            have c10b0 : decide (0 < (x3_4.size : Int)) = true := decide_eq_true c10
            have c10b1 : decide (0 < x3_4.size) = true := decide_eq_true (by omega)
            clear c10
            by_cases c12 : (bt x3_4 0) = 101
            · rw [if_pos c12] at H
              have c12b0 : ((bt x3_4 0) == 101) = true := beq_iff_eq.mpr c12
              have c12b1 : ((bt x3_4 0) != 101) = false := bne_eq_false_iff_eq.mpr c12
              clear c12
              by_cases c13 : 1 ≤ (x3_4.size : Int)
              · rw [if_pos c13] at H
                have c13b0 := eq_true c13
                have c13b1 : decide (1 ≤ (x3_4.size : Int)) = true := decide_eq_true c13
                clear c13
                replace H := Option.bind_eq_some_iff.mp H
                obtain ⟨t127, A140, H⟩ := H
                replace H : ((tag_all.f kj4 t127 10).bind fun t128 => (some t128)) = some r := H
                have A14 := Aside0.mk A140
                clear A140
                replace H := Option.bind_eq_some_iff.mp H
                obtain ⟨t128, A150, H⟩ := H
                replace H : (some t128) = some r := H
                have A15 := Aside0.mk A150
                clear A150
                obtain rfl := Option.some.inj H
                have p11 : 0 ≤ (0 : Int) := (by omega)
                have q11 : 0 < x3_4.size := (by have : (0 : Int) < (x3_4.size : Int) := of_decide_eq_true (by first | (with_reducible assumption) | assumption); omega)
                have hx11 : ∀ h : 0 < x3_4.size, ((x3_4[0]'h).toNat : Int) = bt x3_4 0 := bt_at x3_4 0
                clear p11
                have qi11 : (0 < (x3_4.size : Int)) = True := eq_true (of_decide_eq_true (by first | (with_reducible assumption) | assumption))
                replace q11 := eq_true q11
                go_wp2_with (first | (go_at_call 47; (with_reducible refine (tag_sign.calls (x3_4.extract 1 x3_4.size) t127 _ A14.out).mono ?_); rintro e w' ⟨rfl, ⟨nd, rfl⟩⟩) | (go_at_call 80; (with_reducible refine (tag_all.calls kj4 t127 10 t128 _ A15.out).mono ?_); rintro e w' ⟨rfl, ⟨nd, rfl⟩⟩))
                go_ret
                exact ⟨by first | rfl | (simp; done) | (simp [*]; done) | (simp [xbne_nil, xbeq_nil]; done), by repeat (first | exact Drawn0.refl _ | apply Drawn0.step)⟩
              · rw [if_neg c13] at H
                exact absurd H (by simp)
            · rw [if_neg c12] at H
              have c12b0 : ((bt x3_4 0) == 101) = false := beq_eq_false_iff_ne.mpr c12
              have c12b1 : ((bt x3_4 0) != 101) = true := bne_iff_ne.mpr c12
              by_cases c17 : (bt x3_4 0) = 69
              · rw [if_pos c17] at H
                have c17b0 : ((bt x3_4 0) == 69) = true := beq_iff_eq.mpr c17
                have c17b1 : ((bt x3_4 0) != 69) = false := bne_eq_false_iff_eq.mpr c17
                clear c17
                by_cases c18 : 1 ≤ (x3_4.size : Int)
                · rw [if_pos c18] at H
                  have c18b0 := eq_true c18
                  have c18b1 : decide (1 ≤ (x3_4.size : Int)) = true := decide_eq_true c18
                  clear c18
                  replace H := Option.bind_eq_some_iff.mp H
                  obtain ⟨t129, A190, H⟩ := H
                  replace H : ((tag_all.f kj4 t129 10).bind fun t130 => (some t130)) = some r := H
                  have A19 := Aside0.mk A190
                  clear A190
                  replace H := Option.bind_eq_some_iff.mp H
                  obtain ⟨t130, A200, H⟩ := H
                  replace H : (some t130) = some r := H
                  have A20 := Aside0.mk A200
                  clear A200
                  obtain rfl := Option.some.inj H
                  have p11 : 0 ≤ (0 : Int) := (by omega)
                  have q11 : 0 < x3_4.size := (by have : (0 : Int) < (x3_4.size : Int) := of_decide_eq_true (by first | (with_reducible assumption) | assumption); omega)
                  have hx11 : ∀ h : 0 < x3_4.size, ((x3_4[0]'h).toNat : Int) = bt x3_4 0 := bt_at x3_4 0
                  clear p11
                  have qi11 : (0 < (x3_4.size : Int)) = True := eq_true (of_decide_eq_true (by first | (with_reducible assumption) | assumption))
                  replace q11 := eq_true q11
                  have p16 : 0 ≤ (0 : Int) := (by omega)
                  have q16 : 0 < x3_4.size := (by have : (0 : Int) < (x3_4.size : Int) := of_decide_eq_true (by first | (with_reducible assumption) | assumption); omega)
                  have hx16 : ∀ h : 0 < x3_4.size, ((x3_4[0]'h).toNat : Int) = bt x3_4 0 := bt_at x3_4 0
                  clear p16
                  have qi16 : (0 < (x3_4.size : Int)) = True := eq_true (of_decide_eq_true (by first | (with_reducible assumption) | assumption))
                  replace q16 := eq_true q16
                  go_wp2_with (first | (go_at_call 47; (with_reducible refine (tag_sign.calls (x3_4.extract 1 x3_4.size) t129 _ A19.out).mono ?_); rintro e w' ⟨rfl, ⟨nd, rfl⟩⟩) | (go_at_call 80; (with_reducible refine (tag_all.calls kj4 t129 10 t130 _ A20.out).mono ?_); rintro e w' ⟨rfl, ⟨nd, rfl⟩⟩))
                  go_ret
                  exact ⟨by first | rfl | (simp; done) | (simp [*]; done) | (simp [xbne_nil, xbeq_nil]; done), by repeat (first | exact Drawn0.refl _ | apply Drawn0.step)⟩
                · rw [if_neg c18] at H
                  exact absurd H (by simp)
              · rw [if_neg c17] at H
                have c17b0 : ((bt x3_4 0) == 69) = false := beq_eq_false_iff_ne.mpr c17
                have c17b1 : ((bt x3_4 0) != 69) = true := bne_iff_ne.mpr c17
                obtain rfl := Option.some.inj H
                have p11 : 0 ≤ (0 : Int) := (by omega)
                have q11 : 0 < x3_4.size := (by have : (0 : Int) < (x3_4.size : Int) := of_decide_eq_true (by first | (with_reducible assumption) | assumption); omega)
                have hx11 : ∀ h : 0 < x3_4.size, ((x3_4[0]'h).toNat : Int) = bt x3_4 0 := bt_at x3_4 0
                clear p11
                have qi11 : (0 < (x3_4.size : Int)) = True := eq_true (of_decide_eq_true (by first | (with_reducible assumption) | assumption))
                replace q11 := eq_true q11
                have p16 : 0 ≤ (0 : Int) := (by omega)
                have q16 : 0 < x3_4.size := (by have : (0 : Int) < (x3_4.size : Int) := of_decide_eq_true (by first | (with_reducible assumption) | assumption); omega)
                have hx16 : ∀ h : 0 < x3_4.size, ((x3_4[0]'h).toNat : Int) = bt x3_4 0 := bt_at x3_4 0
                clear p16
                have qi16 : (0 < (x3_4.size : Int)) = True := eq_true (of_decide_eq_true (by first | (with_reducible assumption) | assumption))
                replace q16 := eq_true q16
                go_wp2
                go_ret
                exact ⟨by first | rfl | (simp; done) | (simp [*]; done) | (simp [xbne_nil, xbeq_nil]; done), by repeat (first | exact Drawn0.refl _ | apply Drawn0.step)⟩
          · rw [if_neg c10] at H
            exact absurd H (by simp)
end Go.Proofs.YtgnmjaacnmkgnaaDoor.T
end
section
namespace Go.Proofs.YtgnmjaacnmkgnaaDoor.T
open Go.RowKit Go.Proofs.YtgnmjaacnmkgnaaDoorW.PrintWords Go.Proofs.YtgnmjaacnmkgnaaDoorW.PrintLast Go.Proofs.YtgnmjaacnmkgnaaDoorW.PrintMore
attribute [local go_sem] max2_int min2_int max_two min_two
set_option linter.unusedVariables false
set_option linter.unusedSimpArgs false
def tag_Resolve.f (k : Nat) (a0 : ByteArray) : Option (ByteArray) := if a0.toList = ([] : List UInt8) then (some (⟨#[110, 117, 108, 108]⟩ : ByteArray)) else (if a0.toList = ([126] : List UInt8) then (some (⟨#[110, 117, 108, 108]⟩ : ByteArray)) else (if a0.toList = ([110, 117, 108, 108] : List UInt8) then (some (⟨#[110, 117, 108, 108]⟩ : ByteArray)) else (if a0.toList = ([78, 117, 108, 108] : List UInt8) then (some (⟨#[110, 117, 108, 108]⟩ : ByteArray)) else (if a0.toList = ([78, 85, 76, 76] : List UInt8) then (some (⟨#[110, 117, 108, 108]⟩ : ByteArray)) else (if a0.toList = ([116, 114, 117, 101] : List UInt8) then (some (⟨#[98, 111, 111, 108]⟩ : ByteArray)) else (if a0.toList = ([84, 114, 117, 101] : List UInt8) then (some (⟨#[98, 111, 111, 108]⟩ : ByteArray)) else (if a0.toList = ([84, 82, 85, 69] : List UInt8) then (some (⟨#[98, 111, 111, 108]⟩ : ByteArray)) else (if a0.toList = ([102, 97, 108, 115, 101] : List UInt8) then (some (⟨#[98, 111, 111, 108]⟩ : ByteArray)) else (if a0.toList = ([70, 97, 108, 115, 101] : List UInt8) then (some (⟨#[98, 111, 111, 108]⟩ : ByteArray)) else (if a0.toList = ([70, 65, 76, 83, 69] : List UInt8) then (some (⟨#[98, 111, 111, 108]⟩ : ByteArray)) else (if a0.toList = ([46, 110, 97, 110] : List UInt8) then (some (⟨#[102, 108, 111, 97, 116]⟩ : ByteArray)) else (if a0.toList = ([46, 78, 97, 78] : List UInt8) then (some (⟨#[102, 108, 111, 97, 116]⟩ : ByteArray)) else (if a0.toList = ([46, 78, 65, 78] : List UInt8) then (some (⟨#[102, 108, 111, 97, 116]⟩ : ByteArray)) else ((tag_sign.f a0).bind fun t131 => (if t131.toList = ([46, 105, 110, 102] : List UInt8) then (some (⟨#[102, 108, 111, 97, 116]⟩ : ByteArray)) else (if t131.toList = ([46, 73, 110, 102] : List UInt8) then (some (⟨#[102, 108, 111, 97, 116]⟩ : ByteArray)) else (if t131.toList = ([46, 73, 78, 70] : List UInt8) then (some (⟨#[102, 108, 111, 97, 116]⟩ : ByteArray)) else ((tag_whole.f k a0).bind fun t132 => (if t132 = true then (some (⟨#[105, 110, 116]⟩ : ByteArray)) else ((tag_real.f k a0).bind fun t133 => (if t133 = true then (some (⟨#[102, 108, 111, 97, 116]⟩ : ByteArray)) else (some (⟨#[115, 116, 114]⟩ : ByteArray)))))))))))))))))))))))
set_option maxHeartbeats 8000000 in
set_option maxRecDepth 100000 in
theorem tag_Resolve.calls (k : Nat) (a0 : ByteArray) (r : ByteArray) (w : World) (h : tag_Resolve.f k a0 = some r) :
    Calls Tryd.prog 24 #[.string a0] w fun e w' => e = .returned (.string r) ∧ Drawn0 w w' := by
  have H : (if a0.toList = ([] : List UInt8) then (some (⟨#[110, 117, 108, 108]⟩ : ByteArray)) else (if a0.toList = ([126] : List UInt8) then (some (⟨#[110, 117, 108, 108]⟩ : ByteArray)) else (if a0.toList = ([110, 117, 108, 108] : List UInt8) then (some (⟨#[110, 117, 108, 108]⟩ : ByteArray)) else (if a0.toList = ([78, 117, 108, 108] : List UInt8) then (some (⟨#[110, 117, 108, 108]⟩ : ByteArray)) else (if a0.toList = ([78, 85, 76, 76] : List UInt8) then (some (⟨#[110, 117, 108, 108]⟩ : ByteArray)) else (if a0.toList = ([116, 114, 117, 101] : List UInt8) then (some (⟨#[98, 111, 111, 108]⟩ : ByteArray)) else (if a0.toList = ([84, 114, 117, 101] : List UInt8) then (some (⟨#[98, 111, 111, 108]⟩ : ByteArray)) else (if a0.toList = ([84, 82, 85, 69] : List UInt8) then (some (⟨#[98, 111, 111, 108]⟩ : ByteArray)) else (if a0.toList = ([102, 97, 108, 115, 101] : List UInt8) then (some (⟨#[98, 111, 111, 108]⟩ : ByteArray)) else (if a0.toList = ([70, 97, 108, 115, 101] : List UInt8) then (some (⟨#[98, 111, 111, 108]⟩ : ByteArray)) else (if a0.toList = ([70, 65, 76, 83, 69] : List UInt8) then (some (⟨#[98, 111, 111, 108]⟩ : ByteArray)) else (if a0.toList = ([46, 110, 97, 110] : List UInt8) then (some (⟨#[102, 108, 111, 97, 116]⟩ : ByteArray)) else (if a0.toList = ([46, 78, 97, 78] : List UInt8) then (some (⟨#[102, 108, 111, 97, 116]⟩ : ByteArray)) else (if a0.toList = ([46, 78, 65, 78] : List UInt8) then (some (⟨#[102, 108, 111, 97, 116]⟩ : ByteArray)) else ((tag_sign.f a0).bind fun t131 => (if t131.toList = ([46, 105, 110, 102] : List UInt8) then (some (⟨#[102, 108, 111, 97, 116]⟩ : ByteArray)) else (if t131.toList = ([46, 73, 110, 102] : List UInt8) then (some (⟨#[102, 108, 111, 97, 116]⟩ : ByteArray)) else (if t131.toList = ([46, 73, 78, 70] : List UInt8) then (some (⟨#[102, 108, 111, 97, 116]⟩ : ByteArray)) else ((tag_whole.f k a0).bind fun t132 => (if t132 = true then (some (⟨#[105, 110, 116]⟩ : ByteArray)) else ((tag_real.f k a0).bind fun t133 => (if t133 = true then (some (⟨#[102, 108, 111, 97, 116]⟩ : ByteArray)) else (some (⟨#[115, 116, 114]⟩ : ByteArray)))))))))))))))))))))))) = some r := h
  clear h
  by_cases c2 : a0.toList = ([] : List UInt8)
  · rw [if_pos c2] at H
    have c2b0 : (a0.toList == ([] : List UInt8)) = true := beq_iff_eq.mpr c2
    have c2b1 : (a0.toList != ([] : List UInt8)) = false := bne_eq_false_iff_eq.mpr c2
    clear c2
    obtain rfl := Option.some.inj H
    go_enter Tryd.func24, Tryd.ntmps24
    go_wp2
    go_ret
    exact ⟨by first | rfl | (simp; done) | (simp [*]; done) | (simp [xbne_nil, xbeq_nil]; done), by repeat (first | exact Drawn0.refl _ | apply Drawn0.step)⟩
  · rw [if_neg c2] at H
    have c2b0 : (a0.toList == ([] : List UInt8)) = false := beq_eq_false_iff_ne.mpr c2
    have c2b1 : (a0.toList != ([] : List UInt8)) = true := bne_iff_ne.mpr c2
    by_cases c3 : a0.toList = ([126] : List UInt8)
    · rw [if_pos c3] at H
      have c3b0 : (a0.toList == ([126] : List UInt8)) = true := beq_iff_eq.mpr c3
      have c3b1 : (a0.toList != ([126] : List UInt8)) = false := bne_eq_false_iff_eq.mpr c3
      clear c3
      obtain rfl := Option.some.inj H
      go_enter Tryd.func24, Tryd.ntmps24
      go_wp2
      go_ret
      exact ⟨by first | rfl | (simp; done) | (simp [*]; done) | (simp [xbne_nil, xbeq_nil]; done), by repeat (first | exact Drawn0.refl _ | apply Drawn0.step)⟩
    · rw [if_neg c3] at H
      have c3b0 : (a0.toList == ([126] : List UInt8)) = false := beq_eq_false_iff_ne.mpr c3
      have c3b1 : (a0.toList != ([126] : List UInt8)) = true := bne_iff_ne.mpr c3
      by_cases c4 : a0.toList = ([110, 117, 108, 108] : List UInt8)
      · rw [if_pos c4] at H
        have c4b0 : (a0.toList == ([110, 117, 108, 108] : List UInt8)) = true := beq_iff_eq.mpr c4
        have c4b1 : (a0.toList != ([110, 117, 108, 108] : List UInt8)) = false := bne_eq_false_iff_eq.mpr c4
        clear c4
        obtain rfl := Option.some.inj H
        go_enter Tryd.func24, Tryd.ntmps24
        go_wp2
        go_ret
        exact ⟨by first | rfl | (simp; done) | (simp [*]; done) | (simp [xbne_nil, xbeq_nil]; done), by repeat (first | exact Drawn0.refl _ | apply Drawn0.step)⟩
      · rw [if_neg c4] at H
        have c4b0 : (a0.toList == ([110, 117, 108, 108] : List UInt8)) = false := beq_eq_false_iff_ne.mpr c4
        have c4b1 : (a0.toList != ([110, 117, 108, 108] : List UInt8)) = true := bne_iff_ne.mpr c4
        by_cases c5 : a0.toList = ([78, 117, 108, 108] : List UInt8)
        · rw [if_pos c5] at H
          have c5b0 : (a0.toList == ([78, 117, 108, 108] : List UInt8)) = true := beq_iff_eq.mpr c5
          have c5b1 : (a0.toList != ([78, 117, 108, 108] : List UInt8)) = false := bne_eq_false_iff_eq.mpr c5
          clear c5
          obtain rfl := Option.some.inj H
          go_enter Tryd.func24, Tryd.ntmps24
          go_wp2
          go_ret
          exact ⟨by first | rfl | (simp; done) | (simp [*]; done) | (simp [xbne_nil, xbeq_nil]; done), by repeat (first | exact Drawn0.refl _ | apply Drawn0.step)⟩
        · rw [if_neg c5] at H
          have c5b0 : (a0.toList == ([78, 117, 108, 108] : List UInt8)) = false := beq_eq_false_iff_ne.mpr c5
          have c5b1 : (a0.toList != ([78, 117, 108, 108] : List UInt8)) = true := bne_iff_ne.mpr c5
          by_cases c6 : a0.toList = ([78, 85, 76, 76] : List UInt8)
          · rw [if_pos c6] at H
            have c6b0 : (a0.toList == ([78, 85, 76, 76] : List UInt8)) = true := beq_iff_eq.mpr c6
            have c6b1 : (a0.toList != ([78, 85, 76, 76] : List UInt8)) = false := bne_eq_false_iff_eq.mpr c6
            clear c6
            obtain rfl := Option.some.inj H
            go_enter Tryd.func24, Tryd.ntmps24
            go_wp2
            go_ret
            exact ⟨by first | rfl | (simp; done) | (simp [*]; done) | (simp [xbne_nil, xbeq_nil]; done), by repeat (first | exact Drawn0.refl _ | apply Drawn0.step)⟩
          · rw [if_neg c6] at H
            have c6b0 : (a0.toList == ([78, 85, 76, 76] : List UInt8)) = false := beq_eq_false_iff_ne.mpr c6
            have c6b1 : (a0.toList != ([78, 85, 76, 76] : List UInt8)) = true := bne_iff_ne.mpr c6
            by_cases c7 : a0.toList = ([116, 114, 117, 101] : List UInt8)
            · rw [if_pos c7] at H
              have c7b0 : (a0.toList == ([116, 114, 117, 101] : List UInt8)) = true := beq_iff_eq.mpr c7
              have c7b1 : (a0.toList != ([116, 114, 117, 101] : List UInt8)) = false := bne_eq_false_iff_eq.mpr c7
              clear c7
              obtain rfl := Option.some.inj H
              go_enter Tryd.func24, Tryd.ntmps24
              go_wp2
              go_ret
              exact ⟨by first | rfl | (simp; done) | (simp [*]; done) | (simp [xbne_nil, xbeq_nil]; done), by repeat (first | exact Drawn0.refl _ | apply Drawn0.step)⟩
            · rw [if_neg c7] at H
              have c7b0 : (a0.toList == ([116, 114, 117, 101] : List UInt8)) = false := beq_eq_false_iff_ne.mpr c7
              have c7b1 : (a0.toList != ([116, 114, 117, 101] : List UInt8)) = true := bne_iff_ne.mpr c7
              by_cases c8 : a0.toList = ([84, 114, 117, 101] : List UInt8)
              · rw [if_pos c8] at H
                have c8b0 : (a0.toList == ([84, 114, 117, 101] : List UInt8)) = true := beq_iff_eq.mpr c8
                have c8b1 : (a0.toList != ([84, 114, 117, 101] : List UInt8)) = false := bne_eq_false_iff_eq.mpr c8
                clear c8
                obtain rfl := Option.some.inj H
                go_enter Tryd.func24, Tryd.ntmps24
                go_wp2
                go_ret
                exact ⟨by first | rfl | (simp; done) | (simp [*]; done) | (simp [xbne_nil, xbeq_nil]; done), by repeat (first | exact Drawn0.refl _ | apply Drawn0.step)⟩
              · rw [if_neg c8] at H
                have c8b0 : (a0.toList == ([84, 114, 117, 101] : List UInt8)) = false := beq_eq_false_iff_ne.mpr c8
                have c8b1 : (a0.toList != ([84, 114, 117, 101] : List UInt8)) = true := bne_iff_ne.mpr c8
                by_cases c9 : a0.toList = ([84, 82, 85, 69] : List UInt8)
                · rw [if_pos c9] at H
                  have c9b0 : (a0.toList == ([84, 82, 85, 69] : List UInt8)) = true := beq_iff_eq.mpr c9
                  have c9b1 : (a0.toList != ([84, 82, 85, 69] : List UInt8)) = false := bne_eq_false_iff_eq.mpr c9
                  clear c9
                  obtain rfl := Option.some.inj H
                  go_enter Tryd.func24, Tryd.ntmps24
                  go_wp2
                  go_ret
                  exact ⟨by first | rfl | (simp; done) | (simp [*]; done) | (simp [xbne_nil, xbeq_nil]; done), by repeat (first | exact Drawn0.refl _ | apply Drawn0.step)⟩
                · rw [if_neg c9] at H
                  have c9b0 : (a0.toList == ([84, 82, 85, 69] : List UInt8)) = false := beq_eq_false_iff_ne.mpr c9
                  have c9b1 : (a0.toList != ([84, 82, 85, 69] : List UInt8)) = true := bne_iff_ne.mpr c9
                  by_cases c10 : a0.toList = ([102, 97, 108, 115, 101] : List UInt8)
                  · rw [if_pos c10] at H
                    have c10b0 : (a0.toList == ([102, 97, 108, 115, 101] : List UInt8)) = true := beq_iff_eq.mpr c10
                    have c10b1 : (a0.toList != ([102, 97, 108, 115, 101] : List UInt8)) = false := bne_eq_false_iff_eq.mpr c10
                    clear c10
                    obtain rfl := Option.some.inj H
                    go_enter Tryd.func24, Tryd.ntmps24
                    go_wp2
                    go_ret
                    exact ⟨by first | rfl | (simp; done) | (simp [*]; done) | (simp [xbne_nil, xbeq_nil]; done), by repeat (first | exact Drawn0.refl _ | apply Drawn0.step)⟩
                  · rw [if_neg c10] at H
                    have c10b0 : (a0.toList == ([102, 97, 108, 115, 101] : List UInt8)) = false := beq_eq_false_iff_ne.mpr c10
                    have c10b1 : (a0.toList != ([102, 97, 108, 115, 101] : List UInt8)) = true := bne_iff_ne.mpr c10
                    by_cases c11 : a0.toList = ([70, 97, 108, 115, 101] : List UInt8)
                    · rw [if_pos c11] at H
                      have c11b0 : (a0.toList == ([70, 97, 108, 115, 101] : List UInt8)) = true := beq_iff_eq.mpr c11
                      have c11b1 : (a0.toList != ([70, 97, 108, 115, 101] : List UInt8)) = false := bne_eq_false_iff_eq.mpr c11
                      clear c11
                      obtain rfl := Option.some.inj H
                      go_enter Tryd.func24, Tryd.ntmps24
                      go_wp2
                      go_ret
                      exact ⟨by first | rfl | (simp; done) | (simp [*]; done) | (simp [xbne_nil, xbeq_nil]; done), by repeat (first | exact Drawn0.refl _ | apply Drawn0.step)⟩
                    · rw [if_neg c11] at H
                      have c11b0 : (a0.toList == ([70, 97, 108, 115, 101] : List UInt8)) = false := beq_eq_false_iff_ne.mpr c11
                      have c11b1 : (a0.toList != ([70, 97, 108, 115, 101] : List UInt8)) = true := bne_iff_ne.mpr c11
                      by_cases c12 : a0.toList = ([70, 65, 76, 83, 69] : List UInt8)
                      · rw [if_pos c12] at H
                        have c12b0 : (a0.toList == ([70, 65, 76, 83, 69] : List UInt8)) = true := beq_iff_eq.mpr c12
                        have c12b1 : (a0.toList != ([70, 65, 76, 83, 69] : List UInt8)) = false := bne_eq_false_iff_eq.mpr c12
                        clear c12
                        obtain rfl := Option.some.inj H
                        go_enter Tryd.func24, Tryd.ntmps24
                        go_wp2
                        go_ret
                        exact ⟨by first | rfl | (simp; done) | (simp [*]; done) | (simp [xbne_nil, xbeq_nil]; done), by repeat (first | exact Drawn0.refl _ | apply Drawn0.step)⟩
                      · rw [if_neg c12] at H
                        have c12b0 : (a0.toList == ([70, 65, 76, 83, 69] : List UInt8)) = false := beq_eq_false_iff_ne.mpr c12
                        have c12b1 : (a0.toList != ([70, 65, 76, 83, 69] : List UInt8)) = true := bne_iff_ne.mpr c12
                        by_cases c13 : a0.toList = ([46, 110, 97, 110] : List UInt8)
                        · rw [if_pos c13] at H
                          have c13b0 : (a0.toList == ([46, 110, 97, 110] : List UInt8)) = true := beq_iff_eq.mpr c13
                          have c13b1 : (a0.toList != ([46, 110, 97, 110] : List UInt8)) = false := bne_eq_false_iff_eq.mpr c13
                          clear c13
                          obtain rfl := Option.some.inj H
                          go_enter Tryd.func24, Tryd.ntmps24
                          go_wp2
                          go_ret
                          exact ⟨by first | rfl | (simp; done) | (simp [*]; done) | (simp [xbne_nil, xbeq_nil]; done), by repeat (first | exact Drawn0.refl _ | apply Drawn0.step)⟩
                        · rw [if_neg c13] at H
                          have c13b0 : (a0.toList == ([46, 110, 97, 110] : List UInt8)) = false := beq_eq_false_iff_ne.mpr c13
                          have c13b1 : (a0.toList != ([46, 110, 97, 110] : List UInt8)) = true := bne_iff_ne.mpr c13
                          by_cases c14 : a0.toList = ([46, 78, 97, 78] : List UInt8)
                          · rw [if_pos c14] at H
                            have c14b0 : (a0.toList == ([46, 78, 97, 78] : List UInt8)) = true := beq_iff_eq.mpr c14
                            have c14b1 : (a0.toList != ([46, 78, 97, 78] : List UInt8)) = false := bne_eq_false_iff_eq.mpr c14
                            clear c14
                            obtain rfl := Option.some.inj H
                            go_enter Tryd.func24, Tryd.ntmps24
                            go_wp2
                            go_ret
                            exact ⟨by first | rfl | (simp; done) | (simp [*]; done) | (simp [xbne_nil, xbeq_nil]; done), by repeat (first | exact Drawn0.refl _ | apply Drawn0.step)⟩
                          · rw [if_neg c14] at H
                            have c14b0 : (a0.toList == ([46, 78, 97, 78] : List UInt8)) = false := beq_eq_false_iff_ne.mpr c14
                            have c14b1 : (a0.toList != ([46, 78, 97, 78] : List UInt8)) = true := bne_iff_ne.mpr c14
                            by_cases c15 : a0.toList = ([46, 78, 65, 78] : List UInt8)
                            · rw [if_pos c15] at H
                              have c15b0 : (a0.toList == ([46, 78, 65, 78] : List UInt8)) = true := beq_iff_eq.mpr c15
                              have c15b1 : (a0.toList != ([46, 78, 65, 78] : List UInt8)) = false := bne_eq_false_iff_eq.mpr c15
                              clear c15
                              obtain rfl := Option.some.inj H
                              go_enter Tryd.func24, Tryd.ntmps24
                              go_wp2
                              go_ret
                              exact ⟨by first | rfl | (simp; done) | (simp [*]; done) | (simp [xbne_nil, xbeq_nil]; done), by repeat (first | exact Drawn0.refl _ | apply Drawn0.step)⟩
                            · rw [if_neg c15] at H
                              have c15b0 : (a0.toList == ([46, 78, 65, 78] : List UInt8)) = false := beq_eq_false_iff_ne.mpr c15
                              have c15b1 : (a0.toList != ([46, 78, 65, 78] : List UInt8)) = true := bne_iff_ne.mpr c15
                              replace H := Option.bind_eq_some_iff.mp H
                              obtain ⟨t131, A160, H⟩ := H
                              replace H : (if t131.toList = ([46, 105, 110, 102] : List UInt8) then (some (⟨#[102, 108, 111, 97, 116]⟩ : ByteArray)) else (if t131.toList = ([46, 73, 110, 102] : List UInt8) then (some (⟨#[102, 108, 111, 97, 116]⟩ : ByteArray)) else (if t131.toList = ([46, 73, 78, 70] : List UInt8) then (some (⟨#[102, 108, 111, 97, 116]⟩ : ByteArray)) else ((tag_whole.f k a0).bind fun t132 => (if t132 = true then (some (⟨#[105, 110, 116]⟩ : ByteArray)) else ((tag_real.f k a0).bind fun t133 => (if t133 = true then (some (⟨#[102, 108, 111, 97, 116]⟩ : ByteArray)) else (some (⟨#[115, 116, 114]⟩ : ByteArray))))))))) = some r := H
                              have A16 := Aside0.mk A160
                              clear A160
                              by_cases c17 : t131.toList = ([46, 105, 110, 102] : List UInt8)
                              · rw [if_pos c17] at H
                                have c17b0 : (t131.toList == ([46, 105, 110, 102] : List UInt8)) = true := beq_iff_eq.mpr c17
                                have c17b1 : (t131.toList != ([46, 105, 110, 102] : List UInt8)) = false := bne_eq_false_iff_eq.mpr c17
                                clear c17
                                obtain rfl := Option.some.inj H
                                go_enter Tryd.func24, Tryd.ntmps24
                                go_wp2_with (first | ((with_reducible refine gate_callee (f := 47) rfl ?_); refine goesL_ (some 22) rfl rfl Tryd.func47 (by kernel_rfl) rfl #[.string a0] rfl (by (try simp only [List.map_toArray, List.map_cons, List.map_nil]); first | done | rfl | (simp only [List.length_drop, List.length_take]; rfl)) ?_; (with_reducible refine (tag_sign.calls a0 t131 _ A16.out).mono ?_); rintro e w' ⟨rfl, ⟨nd, rfl⟩⟩; refine ⟨_, rfl, ?_⟩))
                                go_ret
                                exact ⟨by first | rfl | (simp; done) | (simp [*]; done) | (simp [xbne_nil, xbeq_nil]; done), by repeat (first | exact Drawn0.refl _ | apply Drawn0.step)⟩
                              · rw [if_neg c17] at H
                                have c17b0 : (t131.toList == ([46, 105, 110, 102] : List UInt8)) = false := beq_eq_false_iff_ne.mpr c17
                                have c17b1 : (t131.toList != ([46, 105, 110, 102] : List UInt8)) = true := bne_iff_ne.mpr c17
                                by_cases c18 : t131.toList = ([46, 73, 110, 102] : List UInt8)
                                · rw [if_pos c18] at H
                                  have c18b0 : (t131.toList == ([46, 73, 110, 102] : List UInt8)) = true := beq_iff_eq.mpr c18
                                  have c18b1 : (t131.toList != ([46, 73, 110, 102] : List UInt8)) = false := bne_eq_false_iff_eq.mpr c18
                                  clear c18
                                  obtain rfl := Option.some.inj H
                                  go_enter Tryd.func24, Tryd.ntmps24
                                  go_wp2_with (first | ((with_reducible refine gate_callee (f := 47) rfl ?_); refine goesL_ (some 22) rfl rfl Tryd.func47 (by kernel_rfl) rfl #[.string a0] rfl (by (try simp only [List.map_toArray, List.map_cons, List.map_nil]); first | done | rfl | (simp only [List.length_drop, List.length_take]; rfl)) ?_; (with_reducible refine (tag_sign.calls a0 t131 _ A16.out).mono ?_); rintro e w' ⟨rfl, ⟨nd, rfl⟩⟩; refine ⟨_, rfl, ?_⟩))
                                  go_ret
                                  exact ⟨by first | rfl | (simp; done) | (simp [*]; done) | (simp [xbne_nil, xbeq_nil]; done), by repeat (first | exact Drawn0.refl _ | apply Drawn0.step)⟩
                                · rw [if_neg c18] at H
                                  have c18b0 : (t131.toList == ([46, 73, 110, 102] : List UInt8)) = false := beq_eq_false_iff_ne.mpr c18
                                  have c18b1 : (t131.toList != ([46, 73, 110, 102] : List UInt8)) = true := bne_iff_ne.mpr c18
                                  by_cases c19 : t131.toList = ([46, 73, 78, 70] : List UInt8)
                                  · rw [if_pos c19] at H
                                    have c19b0 : (t131.toList == ([46, 73, 78, 70] : List UInt8)) = true := beq_iff_eq.mpr c19
                                    have c19b1 : (t131.toList != ([46, 73, 78, 70] : List UInt8)) = false := bne_eq_false_iff_eq.mpr c19
                                    clear c19
                                    obtain rfl := Option.some.inj H
                                    go_enter Tryd.func24, Tryd.ntmps24
                                    go_wp2_with (first | ((with_reducible refine gate_callee (f := 47) rfl ?_); refine goesL_ (some 22) rfl rfl Tryd.func47 (by kernel_rfl) rfl #[.string a0] rfl (by (try simp only [List.map_toArray, List.map_cons, List.map_nil]); first | done | rfl | (simp only [List.length_drop, List.length_take]; rfl)) ?_; (with_reducible refine (tag_sign.calls a0 t131 _ A16.out).mono ?_); rintro e w' ⟨rfl, ⟨nd, rfl⟩⟩; refine ⟨_, rfl, ?_⟩))
                                    go_ret
                                    exact ⟨by first | rfl | (simp; done) | (simp [*]; done) | (simp [xbne_nil, xbeq_nil]; done), by repeat (first | exact Drawn0.refl _ | apply Drawn0.step)⟩
                                  · rw [if_neg c19] at H
                                    have c19b0 : (t131.toList == ([46, 73, 78, 70] : List UInt8)) = false := beq_eq_false_iff_ne.mpr c19
                                    have c19b1 : (t131.toList != ([46, 73, 78, 70] : List UInt8)) = true := bne_iff_ne.mpr c19
                                    replace H := Option.bind_eq_some_iff.mp H
                                    obtain ⟨t132, A200, H⟩ := H
                                    replace H : (if t132 = true then (some (⟨#[105, 110, 116]⟩ : ByteArray)) else ((tag_real.f k a0).bind fun t133 => (if t133 = true then (some (⟨#[102, 108, 111, 97, 116]⟩ : ByteArray)) else (some (⟨#[115, 116, 114]⟩ : ByteArray))))) = some r := H
                                    have A20 := Aside0.mk A200
                                    clear A200
                                    by_cases c21 : t132 = true
                                    · subst c21
                                      have H1 : (some (⟨#[105, 110, 116]⟩ : ByteArray)) = some r := by rw [if_pos rfl] at H; exact H
                                      clear H
                                      have H := H1
                                      clear H1
                                      obtain rfl := Option.some.inj H
                                      go_enter Tryd.func24, Tryd.ntmps24
                                      go_wp2_with (first | ((with_reducible refine gate_callee (f := 47) rfl ?_); refine goesL_ (some 22) rfl rfl Tryd.func47 (by kernel_rfl) rfl #[.string a0] rfl (by (try simp only [List.map_toArray, List.map_cons, List.map_nil]); first | done | rfl | (simp only [List.length_drop, List.length_take]; rfl)) ?_; (with_reducible refine (tag_sign.calls a0 t131 _ A16.out).mono ?_); rintro e w' ⟨rfl, ⟨nd, rfl⟩⟩; refine ⟨_, rfl, ?_⟩) | ((with_reducible refine gate_callee (f := 48) rfl ?_); refine goesL_ (some 29) rfl rfl Tryd.func48 (by kernel_rfl) rfl #[.string a0] rfl (by (try simp only [List.map_toArray, List.map_cons, List.map_nil]); first | done | rfl | (simp only [List.length_drop, List.length_take]; rfl)) ?_; (with_reducible refine (tag_whole.calls k a0 true _ A20.out).mono ?_); rintro e w' ⟨rfl, ⟨nd, rfl⟩⟩; refine ⟨_, rfl, ?_⟩))
                                      go_ret
                                      exact ⟨by first | rfl | (simp; done) | (simp [*]; done) | (simp [xbne_nil, xbeq_nil]; done), by repeat (first | exact Drawn0.refl _ | apply Drawn0.step)⟩
                                    · replace c21 := Bool.eq_false_iff.mpr c21
                                      subst c21
                                      have H1 : ((tag_real.f k a0).bind fun t133 => (if t133 = true then (some (⟨#[102, 108, 111, 97, 116]⟩ : ByteArray)) else (some (⟨#[115, 116, 114]⟩ : ByteArray)))) = some r := by rw [if_neg (show ¬ (false = true) by decide)] at H; exact H
                                      clear H
                                      have H := H1
                                      clear H1
                                      replace H := Option.bind_eq_some_iff.mp H
                                      obtain ⟨t133, A220, H⟩ := H
                                      replace H : (if t133 = true then (some (⟨#[102, 108, 111, 97, 116]⟩ : ByteArray)) else (some (⟨#[115, 116, 114]⟩ : ByteArray))) = some r := H
                                      have A22 := Aside0.mk A220
                                      clear A220
                                      by_cases c23 : t133 = true
                                      · subst c23
                                        have H1 : (some (⟨#[102, 108, 111, 97, 116]⟩ : ByteArray)) = some r := by rw [if_pos rfl] at H; exact H
                                        clear H
                                        have H := H1
                                        clear H1
                                        obtain rfl := Option.some.inj H
                                        go_enter Tryd.func24, Tryd.ntmps24
                                        go_wp2_with (first | ((with_reducible refine gate_callee (f := 47) rfl ?_); refine goesL_ (some 22) rfl rfl Tryd.func47 (by kernel_rfl) rfl #[.string a0] rfl (by (try simp only [List.map_toArray, List.map_cons, List.map_nil]); first | done | rfl | (simp only [List.length_drop, List.length_take]; rfl)) ?_; (with_reducible refine (tag_sign.calls a0 t131 _ A16.out).mono ?_); rintro e w' ⟨rfl, ⟨nd, rfl⟩⟩; refine ⟨_, rfl, ?_⟩) | ((with_reducible refine gate_callee (f := 48) rfl ?_); refine goesL_ (some 29) rfl rfl Tryd.func48 (by kernel_rfl) rfl #[.string a0] rfl (by (try simp only [List.map_toArray, List.map_cons, List.map_nil]); first | done | rfl | (simp only [List.length_drop, List.length_take]; rfl)) ?_; (with_reducible refine (tag_whole.calls k a0 false _ A20.out).mono ?_); rintro e w' ⟨rfl, ⟨nd, rfl⟩⟩; refine ⟨_, rfl, ?_⟩) | ((with_reducible refine gate_callee (f := 49) rfl ?_); refine goesL_ (some 32) rfl rfl Tryd.func49 (by kernel_rfl) rfl #[.string a0] rfl (by (try simp only [List.map_toArray, List.map_cons, List.map_nil]); first | done | rfl | (simp only [List.length_drop, List.length_take]; rfl)) ?_; (with_reducible refine (tag_real.calls k a0 true _ A22.out).mono ?_); rintro e w' ⟨rfl, ⟨nd, rfl⟩⟩; refine ⟨_, rfl, ?_⟩))
                                        go_ret
                                        exact ⟨by first | rfl | (simp; done) | (simp [*]; done) | (simp [xbne_nil, xbeq_nil]; done), by repeat (first | exact Drawn0.refl _ | apply Drawn0.step)⟩
                                      · replace c23 := Bool.eq_false_iff.mpr c23
                                        subst c23
                                        have H1 : (some (⟨#[115, 116, 114]⟩ : ByteArray)) = some r := by rw [if_neg (show ¬ (false = true) by decide)] at H; exact H
                                        clear H
                                        have H := H1
                                        clear H1
                                        obtain rfl := Option.some.inj H
                                        go_enter Tryd.func24, Tryd.ntmps24
                                        go_wp2_with (first | ((with_reducible refine gate_callee (f := 47) rfl ?_); refine goesL_ (some 22) rfl rfl Tryd.func47 (by kernel_rfl) rfl #[.string a0] rfl (by (try simp only [List.map_toArray, List.map_cons, List.map_nil]); first | done | rfl | (simp only [List.length_drop, List.length_take]; rfl)) ?_; (with_reducible refine (tag_sign.calls a0 t131 _ A16.out).mono ?_); rintro e w' ⟨rfl, ⟨nd, rfl⟩⟩; refine ⟨_, rfl, ?_⟩) | ((with_reducible refine gate_callee (f := 48) rfl ?_); refine goesL_ (some 29) rfl rfl Tryd.func48 (by kernel_rfl) rfl #[.string a0] rfl (by (try simp only [List.map_toArray, List.map_cons, List.map_nil]); first | done | rfl | (simp only [List.length_drop, List.length_take]; rfl)) ?_; (with_reducible refine (tag_whole.calls k a0 false _ A20.out).mono ?_); rintro e w' ⟨rfl, ⟨nd, rfl⟩⟩; refine ⟨_, rfl, ?_⟩) | ((with_reducible refine gate_callee (f := 49) rfl ?_); refine goesL_ (some 32) rfl rfl Tryd.func49 (by kernel_rfl) rfl #[.string a0] rfl (by (try simp only [List.map_toArray, List.map_cons, List.map_nil]); first | done | rfl | (simp only [List.length_drop, List.length_take]; rfl)) ?_; (with_reducible refine (tag_real.calls k a0 false _ A22.out).mono ?_); rintro e w' ⟨rfl, ⟨nd, rfl⟩⟩; refine ⟨_, rfl, ?_⟩))
                                        go_ret
                                        exact ⟨by first | rfl | (simp; done) | (simp [*]; done) | (simp [xbne_nil, xbeq_nil]; done), by repeat (first | exact Drawn0.refl _ | apply Drawn0.step)⟩
end Go.Proofs.YtgnmjaacnmkgnaaDoor.T
end
section
namespace Go.Proofs.YtgnmjaacnmkgnaaDoor.T
open Go.RowKit Go.Proofs.YtgnmjaacnmkgnaaDoorW.PrintWords Go.Proofs.YtgnmjaacnmkgnaaDoorW.PrintLast Go.Proofs.YtgnmjaacnmkgnaaDoorW.PrintMore
attribute [local go_sem] max2_int min2_int max_two min_two
set_option linter.unusedVariables false
set_option linter.unusedSimpArgs false
def tag_Fits.f (k : Nat) (a0 : ByteArray) (a1 : ByteArray) : Option (Bool) := (tag_plain.f a0).bind fun t134 => (if t134 = true then ((tag_Resolve.f k a1).bind fun t135 => (if t135.toList = a0.toList then (some true) else (if a0.toList = ([102, 108, 111, 97, 116] : List UInt8) then (some (t135.toList == ([105, 110, 116] : List UInt8))) else (some false)))) else (if a0.toList = ([115, 116, 114] : List UInt8) then (some true) else ((tag_own.f a0).bind fun t136 => (some t136))))
set_option maxHeartbeats 8000000 in
set_option maxRecDepth 100000 in
theorem tag_Fits.calls (k : Nat) (a0 : ByteArray) (a1 : ByteArray) (r : Bool) (w : World) (h : tag_Fits.f k a0 a1 = some r) :
    Calls Tryd.prog 25 #[.string a0, .string a1] w fun e w' => e = .returned (.bool r) ∧ Below w.heap.size w w' := by
  have HB := Aside0.mk (Below.refl w.heap.size w)
  have H : ((tag_plain.f a0).bind fun t134 => (if t134 = true then ((tag_Resolve.f k a1).bind fun t135 => (if t135.toList = a0.toList then (some true) else (if a0.toList = ([102, 108, 111, 97, 116] : List UInt8) then (some (t135.toList == ([105, 110, 116] : List UInt8))) else (some false)))) else (if a0.toList = ([115, 116, 114] : List UInt8) then (some true) else ((tag_own.f a0).bind fun t136 => (some t136))))) = some r := h
  clear h
  replace H := Option.bind_eq_some_iff.mp H
  obtain ⟨t134, A30, H⟩ := H
  replace H : (if t134 = true then ((tag_Resolve.f k a1).bind fun t135 => (if t135.toList = a0.toList then (some true) else (if a0.toList = ([102, 108, 111, 97, 116] : List UInt8) then (some (t135.toList == ([105, 110, 116] : List UInt8))) else (some false)))) else (if a0.toList = ([115, 116, 114] : List UInt8) then (some true) else ((tag_own.f a0).bind fun t136 => (some t136)))) = some r := H
  have A3 := Aside0.mk A30
  clear A30
  by_cases c4 : t134 = true
  · subst c4
    have H1 : ((tag_Resolve.f k a1).bind fun t135 => (if t135.toList = a0.toList then (some true) else (if a0.toList = ([102, 108, 111, 97, 116] : List UInt8) then (some (t135.toList == ([105, 110, 116] : List UInt8))) else (some false)))) = some r := by rw [if_pos rfl] at H; exact H
    clear H
    have H := H1
    clear H1
    replace H := Option.bind_eq_some_iff.mp H
    obtain ⟨t135, A50, H⟩ := H
    replace H : (if t135.toList = a0.toList then (some true) else (if a0.toList = ([102, 108, 111, 97, 116] : List UInt8) then (some (t135.toList == ([105, 110, 116] : List UInt8))) else (some false))) = some r := H
    have A5 := Aside0.mk A50
    clear A50
    by_cases c6 : t135.toList = a0.toList
    · rw [if_pos c6] at H
      have c6b0 : (t135.toList == a0.toList) = true := beq_iff_eq.mpr c6
      have c6b1 : (t135.toList != a0.toList) = false := bne_eq_false_iff_eq.mpr c6
      clear c6
      obtain rfl := Option.some.inj H
      go_enter Tryd.func25, Tryd.ntmps25
      go_wp2_with (first | ((with_reducible refine gate_callee (f := 50) rfl ?_); refine goesL_ (some 7) rfl rfl Tryd.func50 (by kernel_rfl) rfl #[.string a0] rfl (by (try simp only [List.map_toArray, List.map_cons, List.map_nil]); first | done | rfl | (simp only [List.length_drop, List.length_take]; rfl)) ?_; (with_reducible refine (tag_plain.calls a0 true _ A3.out).mono ?_); rintro e w' ⟨rfl, ⟨nd, rfl⟩⟩; refine ⟨_, rfl, ?_⟩) | ((with_reducible refine gate_callee (f := 24) rfl ?_); refine goesL_ (some 16) rfl rfl Tryd.func24 (by kernel_rfl) rfl #[.string a1] rfl (by (try simp only [List.map_toArray, List.map_cons, List.map_nil]); first | done | rfl | (simp only [List.length_drop, List.length_take]; rfl)) ?_; (with_reducible refine (tag_Resolve.calls k a1 t135 _ A5.out).mono ?_); rintro e w' ⟨rfl, ⟨nd, rfl⟩⟩; refine ⟨_, rfl, ?_⟩))
      go_ret
      exact ⟨by first | rfl | (simp [errW_none, errW_some] <;> rfl) | (simp [*, errW_none, errW_some] <;> rfl), by repeat (first | (with_reducible first | exact HB.out | apply below_alloc | apply pw_below_drewN | apply below_drew1) | exact HB.out)⟩
    · rw [if_neg c6] at H
      have c6b0 : (t135.toList == a0.toList) = false := beq_eq_false_iff_ne.mpr c6
      have c6b1 : (t135.toList != a0.toList) = true := bne_iff_ne.mpr c6
      by_cases c7 : a0.toList = ([102, 108, 111, 97, 116] : List UInt8)
      · rw [if_pos c7] at H
        have c7b0 : (a0.toList == ([102, 108, 111, 97, 116] : List UInt8)) = true := beq_iff_eq.mpr c7
        have c7b1 : (a0.toList != ([102, 108, 111, 97, 116] : List UInt8)) = false := bne_eq_false_iff_eq.mpr c7
        clear c7
        obtain rfl := Option.some.inj H
        go_enter Tryd.func25, Tryd.ntmps25
        go_wp2_with (first | ((with_reducible refine gate_callee (f := 50) rfl ?_); refine goesL_ (some 7) rfl rfl Tryd.func50 (by kernel_rfl) rfl #[.string a0] rfl (by (try simp only [List.map_toArray, List.map_cons, List.map_nil]); first | done | rfl | (simp only [List.length_drop, List.length_take]; rfl)) ?_; (with_reducible refine (tag_plain.calls a0 true _ A3.out).mono ?_); rintro e w' ⟨rfl, ⟨nd, rfl⟩⟩; refine ⟨_, rfl, ?_⟩) | ((with_reducible refine gate_callee (f := 24) rfl ?_); refine goesL_ (some 16) rfl rfl Tryd.func24 (by kernel_rfl) rfl #[.string a1] rfl (by (try simp only [List.map_toArray, List.map_cons, List.map_nil]); first | done | rfl | (simp only [List.length_drop, List.length_take]; rfl)) ?_; (with_reducible refine (tag_Resolve.calls k a1 t135 _ A5.out).mono ?_); rintro e w' ⟨rfl, ⟨nd, rfl⟩⟩; refine ⟨_, rfl, ?_⟩))
        go_ret
        exact ⟨by first | rfl | (simp [errW_none, errW_some] <;> rfl) | (simp [*, errW_none, errW_some] <;> rfl), by repeat (first | (with_reducible first | exact HB.out | apply below_alloc | apply pw_below_drewN | apply below_drew1) | exact HB.out)⟩
      · rw [if_neg c7] at H
        have c7b0 : (a0.toList == ([102, 108, 111, 97, 116] : List UInt8)) = false := beq_eq_false_iff_ne.mpr c7
        have c7b1 : (a0.toList != ([102, 108, 111, 97, 116] : List UInt8)) = true := bne_iff_ne.mpr c7
        obtain rfl := Option.some.inj H
        go_enter Tryd.func25, Tryd.ntmps25
        go_wp2_with (first | ((with_reducible refine gate_callee (f := 50) rfl ?_); refine goesL_ (some 7) rfl rfl Tryd.func50 (by kernel_rfl) rfl #[.string a0] rfl (by (try simp only [List.map_toArray, List.map_cons, List.map_nil]); first | done | rfl | (simp only [List.length_drop, List.length_take]; rfl)) ?_; (with_reducible refine (tag_plain.calls a0 true _ A3.out).mono ?_); rintro e w' ⟨rfl, ⟨nd, rfl⟩⟩; refine ⟨_, rfl, ?_⟩) | ((with_reducible refine gate_callee (f := 24) rfl ?_); refine goesL_ (some 16) rfl rfl Tryd.func24 (by kernel_rfl) rfl #[.string a1] rfl (by (try simp only [List.map_toArray, List.map_cons, List.map_nil]); first | done | rfl | (simp only [List.length_drop, List.length_take]; rfl)) ?_; (with_reducible refine (tag_Resolve.calls k a1 t135 _ A5.out).mono ?_); rintro e w' ⟨rfl, ⟨nd, rfl⟩⟩; refine ⟨_, rfl, ?_⟩))
        go_ret
        exact ⟨by first | rfl | (simp [errW_none, errW_some] <;> rfl) | (simp [*, errW_none, errW_some] <;> rfl), by repeat (first | (with_reducible first | exact HB.out | apply below_alloc | apply pw_below_drewN | apply below_drew1) | exact HB.out)⟩
  · replace c4 := Bool.eq_false_iff.mpr c4
    subst c4
    have H1 : (if a0.toList = ([115, 116, 114] : List UInt8) then (some true) else ((tag_own.f a0).bind fun t136 => (some t136))) = some r := by rw [if_neg (show ¬ (false = true) by decide)] at H; exact H
    clear H
    have H := H1
    clear H1
    by_cases c8 : a0.toList = ([115, 116, 114] : List UInt8)
    · rw [if_pos c8] at H
      have c8b0 : (a0.toList == ([115, 116, 114] : List UInt8)) = true := beq_iff_eq.mpr c8
      have c8b1 : (a0.toList != ([115, 116, 114] : List UInt8)) = false := bne_eq_false_iff_eq.mpr c8
      clear c8
      obtain rfl := Option.some.inj H
      go_enter Tryd.func25, Tryd.ntmps25
      go_wp2_with (first | ((with_reducible refine gate_callee (f := 50) rfl ?_); refine goesL_ (some 7) rfl rfl Tryd.func50 (by kernel_rfl) rfl #[.string a0] rfl (by (try simp only [List.map_toArray, List.map_cons, List.map_nil]); first | done | rfl | (simp only [List.length_drop, List.length_take]; rfl)) ?_; (with_reducible refine (tag_plain.calls a0 false _ A3.out).mono ?_); rintro e w' ⟨rfl, ⟨nd, rfl⟩⟩; refine ⟨_, rfl, ?_⟩))
      go_ret
      exact ⟨by first | rfl | (simp [errW_none, errW_some] <;> rfl) | (simp [*, errW_none, errW_some] <;> rfl), by repeat (first | (with_reducible first | exact HB.out | apply below_alloc | apply pw_below_drewN | apply below_drew1) | exact HB.out)⟩
    · rw [if_neg c8] at H
      have c8b0 : (a0.toList == ([115, 116, 114] : List UInt8)) = false := beq_eq_false_iff_ne.mpr c8
      have c8b1 : (a0.toList != ([115, 116, 114] : List UInt8)) = true := bne_iff_ne.mpr c8
      replace H := Option.bind_eq_some_iff.mp H
      obtain ⟨t136, A90, H⟩ := H
      replace H : (some t136) = some r := H
      have A9 := Aside0.mk A90
      clear A90
      obtain rfl := Option.some.inj H
      go_enter Tryd.func25, Tryd.ntmps25
      go_wp2_with (first | ((with_reducible refine gate_callee (f := 50) rfl ?_); refine goesL_ (some 7) rfl rfl Tryd.func50 (by kernel_rfl) rfl #[.string a0] rfl (by (try simp only [List.map_toArray, List.map_cons, List.map_nil]); first | done | rfl | (simp only [List.length_drop, List.length_take]; rfl)) ?_; (with_reducible refine (tag_plain.calls a0 false _ A3.out).mono ?_); rintro e w' ⟨rfl, ⟨nd, rfl⟩⟩; refine ⟨_, rfl, ?_⟩) | (go_at_call 51; (with_reducible refine (tag_own.calls a0 t136 _ A9.out).mono ?_); rintro e w10 ⟨rfl, hb⟩; have n0_ := Aside0.mk (below_step (by repeat (first | (with_reducible first | exact HB.out | apply below_alloc | apply pw_below_drewN | apply below_drew1) | exact HB.out)) hb); clear HB; have HB := n0_; clear n0_; (try clear hb); (try clear hb2); (try clear hk); (try clear hi)))
      go_ret
      exact ⟨by first | rfl | (simp [errW_none, errW_some] <;> rfl) | (simp [*, errW_none, errW_some] <;> rfl), by repeat (first | (with_reducible first | exact HB.out | apply below_alloc | apply pw_below_drewN | apply below_drew1) | exact HB.out)⟩
end Go.Proofs.YtgnmjaacnmkgnaaDoor.T
end
section
namespace Go.Proofs.YtgnmjaacnmkgnaaDoor.Bytes
open Go.RowKit Go.Proofs.YtgnmjaacnmkgnaaDoorW.PrintWords
theorem toList_mk (l : List UInt8) : (ByteArray.mk l.toArray).toList = l := by rw [ByteArray.toList_eq]
theorem size_mk (l : List UInt8) : (ByteArray.mk l.toArray).size = l.length := by simp [ByteArray.size]
theorem extract_mk (l : List UInt8) (a b : Nat) : (ByteArray.mk l.toArray).extract a b = ⟨((l.drop a).take (b - a)).toArray⟩ := by
  have h := Lib.extract_data ⟨l.toArray⟩ a b
  cases hx : (ByteArray.mk l.toArray).extract a b with
  | mk d => rw [hx] at h; have h2 : d.toList = (l.drop a).take (b - a) := h; rw [← h2]
theorem extract_all (l : List UInt8) (a : Nat) : (ByteArray.mk l.toArray).extract a l.length = ⟨(l.drop a).toArray⟩ := by
  rw [extract_mk, List.take_of_length_le (by rw [List.length_drop]; exact Nat.le_refl _)]
theorem bt_mk (l : List UInt8) (i : Int) : bt ⟨l.toArray⟩ i = ((l.getD i.toNat 0).toNat : Int) := by
  unfold bt
  split
  · rename_i h
    have h' : i.toNat < l.length := by rw [size_mk] at h; exact h
    rw [List.getD_eq_getElem?_getD, List.getElem?_eq_getElem h']
    rfl
  · rename_i h
    have h' : l.length ≤ i.toNat := by rw [size_mk] at h; omega
    rw [List.getD_eq_getElem?_getD, List.getElem?_eq_none h']
    rfl
theorem bt_nat (l : List UInt8) (n : Nat) (h : n < l.length) : bt ⟨l.toArray⟩ (n : Int) = (l[n].toNat : Int) := by
  rw [bt_mk, Int.toNat_natCast, List.getD_eq_getElem?_getD, List.getElem?_eq_getElem h]; rfl
theorem wrap64_nat (n : Nat) (h : n ≤ 140737488351232) : wrap64 ((n : Int) + 1) = ((n + 1 : Nat) : Int) := by unfold wrap64; omega
theorem all_u8 {p : UInt8 → Prop} (h : ∀ n : Fin 256, p (UInt8.ofFin n)) (c : UInt8) : p c := by
  have := h c.toFin; simpa using this
end Go.Proofs.YtgnmjaacnmkgnaaDoor.Bytes
end
section
namespace Go.Proofs.YtgnmjaacnmkgnaaDoor.Plain
open Go.Proofs.YtgnmjaacnmkgnaaDoor.Bytes
def val (c : UInt8) : Int := if 97 ≤ c.toNat ∧ c.toNat ≤ 102 then c.toNat - 87 else if 65 ≤ c.toNat ∧ c.toNat ≤ 70 then c.toNat - 55 else if 48 ≤ c.toNat ∧ c.toNat ≤ 57 then c.toNat - 48 else 16
def dig (b : Int) (c : UInt8) : Bool := decide (val c < b)
def sgn (l : List UInt8) : List UInt8 := match l with
  | [] => []
  | c :: t => if c = 43 ∨ c = 45 then t else c :: t
def only (l of : List UInt8) : Bool := l.all of.contains && !l.isEmpty
def alld (b : Int) (l : List UInt8) : Bool := l.all (dig b) && !l.isEmpty
def pre (p l : List UInt8) : Bool := p.isPrefixOf l
def whole (l : List UInt8) : Bool := if pre [48, 111] l then alld 8 (l.drop 2) else if pre [48, 120] l then alld 16 (l.drop 2) else alld 10 (sgn l)
def isE (c : UInt8) : Bool := c == 101 || c == 69
def tail2 (many : Nat) (r : List UInt8) : Bool := if many = 0 then false else match r with
  | [] => true
  | c :: u => isE c && alld 10 (sgn u)
def real (l : List UInt8) : Bool :=
  let t := sgn l
  let a := t.takeWhile (dig 10)
  match t.dropWhile (dig 10) with
  | [] => tail2 a.length []
  | c :: u => if c = 46 then tail2 (a.length + (u.takeWhile (dig 10)).length) (u.dropWhile (dig 10)) else tail2 a.length (c :: u)
theorem split_at (p : UInt8 → Bool) (l : List UInt8) : l = l.takeWhile p ++ l.dropWhile p ∧ (∀ c ∈ l.takeWhile p, p c = true) ∧ ∀ c u, l.dropWhile p = c :: u → p c = false := by
  refine ⟨(List.takeWhile_append_dropWhile).symm, ?_, ?_⟩
  · intro c hc; induction l with
    | nil => simp at hc
    | cons a t ih =>
      rw [List.takeWhile_cons] at hc
      split at hc
      · rcases List.mem_cons.mp hc with rfl | h
        · assumption
        · exact ih h
      · simp at hc
  · intro c u h; induction l with
    | nil => simp at h
    | cons a t ih =>
      rw [List.dropWhile_cons] at h
      split at h
      · exact ih h
      · rename_i hn; injection h with h1 h2; subst h1; exact Bool.eq_false_iff.mpr hn
end Go.Proofs.YtgnmjaacnmkgnaaDoor.Plain
end
section
set_option linter.unusedSimpArgs false
namespace Go.Proofs.YtgnmjaacnmkgnaaDoor.Impl
open Go.RowKit Go.Proofs.YtgnmjaacnmkgnaaDoor.T Go.Proofs.YtgnmjaacnmkgnaaDoorW.PrintWords Go.Proofs.YtgnmjaacnmkgnaaDoorW.PrintLast
open Go.Proofs.YtgnmjaacnmkgnaaDoor.Bytes Go.Proofs.YtgnmjaacnmkgnaaDoor.Plain
abbrev ba (l : List UInt8) : ByteArray := ⟨l.toArray⟩
theorem ofNat_int (c : UInt8) (n : Nat) (h : n < 256) : ((c.toNat : Int) = (n : Int)) ↔ c = UInt8.ofNat n := by
  constructor
  · intro e; apply UInt8.toNat_inj.mp; rw [UInt8.toNat_ofNat']; omega
  · intro e; rw [e, UInt8.toNat_ofNat']; omega
theorem bt_zero (c : UInt8) (t : List UInt8) : bt (ba (c :: t)) 0 = (c.toNat : Int) := bt_mk _ _
theorem sign_eq (l : List UInt8) : tag_sign.f (ba l) = some (ba (sgn l)) := by
  unfold tag_sign.f
  rw [toList_mk]
  cases l with
  | nil => rfl
  | cons c t =>
    have h43 : ((c.toNat : Int) = 43) ↔ c = 43 := ofNat_int c 43 (by decide)
    have h45 : ((c.toNat : Int) = 45) ↔ c = 45 := ofNat_int c 45 (by decide)
    have he : (ba (c :: t)).extract 1 (c :: t).length = ba t := extract_all _ _
    have p0 : (0 : Int) < ((c :: t).length : Int) := by simp only [List.length_cons]; omega
    have p1 : (1 : Int) ≤ ((c :: t).length : Int) := by simp only [List.length_cons]; omega
    rw [if_neg (by simp), size_mk, if_pos p0, bt_zero, he, if_pos p1]
    unfold sgn
    simp only [h43, h45]
    by_cases h1 : c = 43
    · simp [h1]
    · by_cases h2 : c = 45 <;> simp [h1, h2]
theorem pre_take (p l : List UInt8) : pre p l = (l.take p.length == p) := by
  unfold pre
  rw [Bool.eq_iff_iff, List.isPrefixOf_iff_prefix, List.prefix_iff_eq_take, beq_iff_eq]
  exact ⟨fun h => h.symm, fun h => h.symm⟩
theorem has_eq (l p : List UInt8) : stringslite_HasPrefix.f (ba l) (ba p) = some (pre p l) := by
  unfold stringslite_HasPrefix.f
  simp only [size_mk]
  by_cases h : p.length ≤ l.length
  · rw [if_pos (by omega), if_pos (by omega), if_pos (by omega), extract_mk, toList_mk, toList_mk, pre_take]
    simp
  · rw [if_neg (by omega)]
    have : pre p l = false := by
      rw [pre_take, beq_eq_false_iff_ne]; intro e
      have := congrArg List.length e; rw [List.length_take] at this; omega
    rw [this]
theorem pre_le {p l : List UInt8} (h : pre p l = true) : p.length ≤ l.length := by
  unfold pre at h; exact (List.isPrefixOf_iff_prefix.mp h).length_le
theorem cut_eq (l p : List UInt8) : strings_CutPrefix.f (ba l) (ba p) = some (if pre p l then (ba (l.drop p.length), true) else (ba l, false)) := by
  unfold strings_CutPrefix.f stringslite_CutPrefix.f
  rw [has_eq]
  simp only [Option.bind_some, size_mk]
  by_cases h : pre p l = true
  · have := pre_le h
    rw [if_pos h, if_pos (by omega), if_pos (by omega), if_pos h, Int.toNat_natCast, extract_all]
    rfl
  · rw [if_neg h, if_neg h]; rfl
theorem value_eq (c : UInt8) (k : Nat) (hk : 2 ≤ k) : tag_value.f k (c.toNat : Int) = some (val c) :=
  at_rounds (g := fun k => tag_value.f k (c.toNat : Int)) (fun k => tag_value.mono _ k) hk (all_u8 (p := fun c => tag_value.f 2 (c.toNat : Int) = some (val c)) (by decide +kernel) c)
theorem digits_loop (l : List UInt8) (b : Int) (hl : l.length ≤ 140737488351232) (d : Nat) : ∀ (k n : Nat), n ≤ l.length → l.length - n = d → d + 3 ≤ k →
    tag_digits.l0 k (ba l) b (n : Int) = some (ba ((l.drop n).dropWhile (dig b)), ((n + ((l.drop n).takeWhile (dig b)).length : Nat) : Int)) := by
  induction d with
  | zero =>
    intro k n hn hd hk
    obtain ⟨k, rfl⟩ : ∃ m, k = m + 1 := ⟨k - 1, by omega⟩
    have hnl : n = l.length := by omega
    simp only [tag_digits.l0]
    rw [size_mk, if_neg (by omega), if_pos (by omega), if_pos (by omega), Int.toNat_natCast, extract_all, hnl, List.drop_length]
    simp
  | succ d ih =>
    intro k n hn hd hk
    obtain ⟨k, rfl⟩ : ∃ m, k = m + 1 := ⟨k - 1, by omega⟩
    have hlt : n < l.length := by omega
    simp only [tag_digits.l0]
    rw [size_mk, if_pos (by omega), if_pos (by omega), bt_nat l n hlt, value_eq _ _ (by omega)]
    simp only [Option.bind_some]
    rw [List.drop_eq_getElem_cons hlt, List.takeWhile_cons, List.dropWhile_cons]
    by_cases hv : val l[n] < b
    · have hd' : dig b l[n] = true := by unfold dig; simpa using hv
      rw [if_pos hv, wrap64_nat n (by omega), ih k (n + 1) (by omega) (by omega) (by omega), if_pos hd', if_pos hd', List.length_cons]
      congr 2; omega
    · have hd' : ¬ dig b l[n] = true := by unfold dig; simpa using hv
      rw [if_neg hv, if_pos (by omega), if_neg hd', if_neg hd', Int.toNat_natCast, extract_all, List.drop_eq_getElem_cons hlt]
      simp
theorem digits_eq (l : List UInt8) (b : Int) (k : Nat) (hl : l.length ≤ 2000) (hk : 200000 ≤ k) :
    tag_digits.f k (ba l) b = some (ba (l.dropWhile (dig b)), ((l.takeWhile (dig b)).length : Int)) := by
  have := digits_loop l b (by omega) l.length k 0 (by omega) (by omega) (by omega)
  simpa [tag_digits.f] using this
theorem drop_nil (p : UInt8 → Bool) (l : List UInt8) : (l.dropWhile p = []) ↔ l.all p = true := by
  induction l with
  | nil => simp
  | cons c t ih =>
    rw [List.dropWhile_cons, List.all_cons]
    by_cases h : p c = true
    · rw [if_pos h, ih]; simp [h]
    · rw [if_neg h]; simp [h]
theorem take_all (p : UInt8 → Bool) (l : List UInt8) (h : l.all p = true) : l.takeWhile p = l := by
  have h2 := (split_at p l).1
  rw [(drop_nil p l).mpr h, List.append_nil] at h2; exact h2.symm
theorem all_eq (l : List UInt8) (b : Int) (k : Nat) (hl : l.length ≤ 2000) (hk : 200000 ≤ k) : tag_all.f k (ba l) b = some (alld b l) := by
  unfold tag_all.f
  rw [digits_eq l b k hl hk]
  simp only [Option.bind_some, toList_mk]
  unfold alld
  by_cases h : l.all (dig b) = true
  · rw [if_pos ((drop_nil _ _).mpr h), take_all _ _ h, h]
    cases l <;> simp
  · rw [if_neg (fun e => h ((drop_nil _ _).mp e))]
    simp [h]
theorem sgn_le (l : List UInt8) : (sgn l).length ≤ l.length := by
  cases l with
  | nil => simp [sgn]
  | cons c t => show (if c = 43 ∨ c = 45 then t else c :: t).length ≤ _; split <;> simp
theorem drop_le (p : UInt8 → Bool) (l : List UInt8) : (l.dropWhile p).length ≤ l.length := (List.dropWhile_sublist p).length_le
theorem whole_some (l : List UInt8) (k : Nat) (hl : l.length ≤ 2000) (hk : 200000 ≤ k) : tag_whole.f k (ba l) = some (whole l) := by
  unfold tag_whole.f whole
  have hs := sgn_le l
  rw [show (⟨#[48, 111]⟩ : ByteArray) = ba [48, 111] from rfl, show (⟨#[48, 120]⟩ : ByteArray) = ba [48, 120] from rfl, cut_eq, cut_eq, sign_eq]
  by_cases h1 : pre [48, 111] l = true
  · rw [if_pos h1, if_pos h1]
    simp only [Option.bind_some, if_true]
    rw [all_eq _ _ _ (by rw [List.length_drop]; omega) hk]
    rfl
  · rw [if_neg h1, if_neg h1]
    simp only [Option.bind_some, if_false, Bool.false_eq_true]
    by_cases h2 : pre [48, 120] l = true
    · rw [if_pos h2, if_pos h2]
      simp only [if_true]
      rw [all_eq _ _ _ (by rw [List.length_drop]; omega) hk]
      rfl
    · rw [if_neg h2, if_neg h2]
      simp only [if_false, Bool.false_eq_true]
      rw [all_eq _ _ _ (by omega) hk]
      rfl
theorem tail_eq (r : List UInt8) (a b : Nat) (k : Nat) (ha : a ≤ 2000) (hb : b ≤ 2000) (hl : r.length ≤ 2000) (hk : 200001 ≤ k) :
    tag_real.j0 k (ba r) (a : Int) (b : Int) = some (tail2 (a + b) r) := by
  obtain ⟨k, rfl⟩ : ∃ m, k = m + 1 := ⟨k - 1, by omega⟩
  simp only [tag_real.j0]
  have hw : wrap64 ((a : Int) + (b : Int)) = ((a + b : Nat) : Int) := by unfold wrap64; omega
  rw [hw, toList_mk, size_mk]
  unfold tail2
  by_cases h0 : a + b = 0
  · rw [if_pos (by omega), if_pos h0]
  · rw [if_neg (by omega), if_neg h0]
    cases r with
    | nil => rfl
    | cons c u =>
      have h101 : ((c.toNat : Int) = 101) ↔ c = 101 := ofNat_int c 101 (by decide)
      have h69 : ((c.toNat : Int) = 69) ↔ c = 69 := ofNat_int c 69 (by decide)
      have he : (ba (c :: u)).extract 1 (c :: u).length = ba u := extract_all _ _
      have hs := sgn_le u
      have hu : (c :: u).length = u.length + 1 := rfl
      have p0 : (0 : Int) < ((c :: u).length : Int) := by simp only [List.length_cons]; omega
      have p1 : (1 : Int) ≤ ((c :: u).length : Int) := by simp only [List.length_cons]; omega
      have hsu : (sgn u).length ≤ 2000 := by rw [hu] at hl; omega
      rw [if_neg (by simp), if_pos p0, bt_zero, if_pos p1, he, sign_eq]
      simp only [Option.bind_some, h101, h69]
      rw [all_eq _ _ _ hsu (by omega)]
      simp only [Option.bind_some]
      unfold isE
      by_cases h1 : c = 101
      · simp [h1]
      · by_cases h2 : c = 69 <;> simp [h1, h2]
theorem real_some (l : List UInt8) (k : Nat) (hl : l.length ≤ 2000) (hk : 200001 ≤ k) : tag_real.f k (ba l) = some (real l) := by
  unfold tag_real.f real
  have hs := sgn_le l
  rw [sign_eq]
  simp only [Option.bind_some]
  generalize sgn l = t at *
  have h1 := (List.takeWhile_sublist (dig 10) (l := t)).length_le
  have h2 := drop_le (dig 10) t
  rw [digits_eq t 10 k (by omega) (by omega)]
  simp only [Option.bind_some]
  rw [show (⟨#[46]⟩ : ByteArray) = ba [46] from rfl, cut_eq]
  cases hd : t.dropWhile (dig 10) with
  | nil =>
    rw [if_neg (by decide)]
    simp only [Option.bind_some, Bool.false_eq_true, if_false]
    exact tail_eq [] _ 0 k (by omega) (by omega) (by simp) hk
  | cons c u =>
    rw [hd] at h2
    have hu : (c :: u).length = u.length + 1 := rfl
    have hp : pre [46] (c :: u) = (46 == c) := by unfold pre; simp [List.isPrefixOf]
    by_cases h46 : c = 46
    · subst h46
      rw [if_pos (by rw [hp]; rfl)]
      simp only [Option.bind_some, if_true, List.length_singleton, List.drop_succ_cons, List.drop_zero]
      have h3 := (List.takeWhile_sublist (dig 10) (l := u)).length_le
      have h4 := drop_le (dig 10) u
      rw [digits_eq u 10 k (by omega) (by omega)]
      simp only [Option.bind_some]
      exact tail_eq _ _ _ k (by omega) (by omega) (by omega) hk
    · rw [if_neg (by rw [hp]; simp; exact fun e => h46 e.symm)]
      simp only [Option.bind_some, Bool.false_eq_true, if_false]
      rw [if_neg h46]
      exact tail_eq (c :: u) _ 0 k (by omega) (by omega) (by omega) hk
end Go.Proofs.YtgnmjaacnmkgnaaDoor.Impl
end
section
set_option linter.unusedSimpArgs false
namespace Go.Proofs.YtgnmjaacnmkgnaaDoor.Impl
open Go.RowKit Go.Proofs.YtgnmjaacnmkgnaaDoor.T Go.Proofs.YtgnmjaacnmkgnaaDoorW.PrintWords Go.Proofs.YtgnmjaacnmkgnaaDoorW.PrintLast
open Go.Proofs.YtgnmjaacnmkgnaaDoor.Bytes Go.Proofs.YtgnmjaacnmkgnaaDoor.Plain
abbrev bNull : List UInt8 := [110, 117, 108, 108]
abbrev bBool : List UInt8 := [98, 111, 111, 108]
abbrev bInt : List UInt8 := [105, 110, 116]
abbrev bFloat : List UInt8 := [102, 108, 111, 97, 116]
abbrev bStr : List UInt8 := [115, 116, 114]
abbrev bSeq : List UInt8 := [115, 101, 113]
abbrev bMap : List UInt8 := [109, 97, 112]
abbrev nulls : List (List UInt8) := [[], [126], [110, 117, 108, 108], [78, 117, 108, 108], [78, 85, 76, 76]]
abbrev bools : List (List UInt8) := [[116, 114, 117, 101], [84, 114, 117, 101], [84, 82, 85, 69], [102, 97, 108, 115, 101], [70, 97, 108, 115, 101], [70, 65, 76, 83, 69]]
abbrev nans : List (List UInt8) := [[46, 110, 97, 110], [46, 78, 97, 78], [46, 78, 65, 78]]
abbrev infs : List (List UInt8) := [[46, 105, 110, 102], [46, 73, 110, 102], [46, 73, 78, 70]]
abbrev plains : List (List UInt8) := [bNull, bBool, bInt, bFloat]
abbrev cores : List (List UInt8) := [bNull, bBool, bInt, bFloat, bStr, bSeq, bMap]
def R1 (l : List UInt8) : List UInt8 := if l ∈ nulls then bNull else if l ∈ bools then bBool else if l ∈ nans then bFloat else if sgn l ∈ infs then bFloat else if whole l = true then bInt else if real l = true then bFloat else bStr
theorem resolve1 (l : List UInt8) (k : Nat) (hl : l.length ≤ 2000) (hk : 300001 ≤ k) : tag_Resolve.f k (ba l) = some (ba (R1 l)) := by
  unfold tag_Resolve.f R1
  rw [sign_eq, whole_some l k hl (by omega), real_some l k hl (by omega)]
  simp only [toList_mk, Option.bind_some]
  by_cases h1 : l ∈ nulls
  · rw [if_pos h1]
    simp only [nulls, List.mem_cons, List.not_mem_nil, or_false] at h1
    rcases h1 with rfl | rfl | rfl | rfl | rfl <;> rfl
  rw [if_neg h1]
  simp only [nulls, List.mem_cons, List.not_mem_nil, or_false, not_or] at h1
  obtain ⟨a1, a2, a3, a4, a5⟩ := h1
  rw [if_neg a1, if_neg a2, if_neg a3, if_neg a4, if_neg a5]
  by_cases h2 : l ∈ bools
  · rw [if_pos h2]
    simp only [bools, List.mem_cons, List.not_mem_nil, or_false] at h2
    rcases h2 with rfl | rfl | rfl | rfl | rfl | rfl <;> rfl
  rw [if_neg h2]
  simp only [bools, List.mem_cons, List.not_mem_nil, or_false, not_or] at h2
  obtain ⟨a1, a2, a3, a4, a5, a6⟩ := h2
  rw [if_neg a1, if_neg a2, if_neg a3, if_neg a4, if_neg a5, if_neg a6]
  by_cases h3 : l ∈ nans
  · rw [if_pos h3]
    simp only [nans, List.mem_cons, List.not_mem_nil, or_false] at h3
    rcases h3 with rfl | rfl | rfl <;> rfl
  rw [if_neg h3]
  simp only [nans, List.mem_cons, List.not_mem_nil, or_false, not_or] at h3
  obtain ⟨a1, a2, a3⟩ := h3
  rw [if_neg a1, if_neg a2, if_neg a3]
  by_cases h4 : sgn l ∈ infs
  · rw [if_pos h4]
    simp only [infs, List.mem_cons, List.not_mem_nil, or_false] at h4
    rcases h4 with h | h | h <;> rw [h] <;> rfl
  rw [if_neg h4]
  simp only [infs, List.mem_cons, List.not_mem_nil, or_false, not_or] at h4
  obtain ⟨a1, a2, a3⟩ := h4
  rw [if_neg a1, if_neg a2, if_neg a3]
  cases whole l <;> cases real l <;> rfl
end Go.Proofs.YtgnmjaacnmkgnaaDoor.Impl
end
section
set_option linter.unusedSimpArgs false
namespace Go.Proofs.YtgnmjaacnmkgnaaDoor.Impl
open Go.RowKit Go.Proofs.YtgnmjaacnmkgnaaDoor.T Go.Proofs.YtgnmjaacnmkgnaaDoorW.PrintWords Go.Proofs.YtgnmjaacnmkgnaaDoorW.PrintLast
open Go.Proofs.YtgnmjaacnmkgnaaDoor.Bytes Go.Proofs.YtgnmjaacnmkgnaaDoor.Plain
def names : List UInt8 := [48, 49, 50, 51, 52, 53, 54, 55, 56, 57, 97, 98, 99, 100, 101, 102, 103, 104, 105, 106, 107, 108, 109, 110, 111, 112, 113, 114, 115, 116, 117, 118, 119, 120, 121, 122, 65, 66, 67, 68, 69, 70, 71, 72, 73, 74, 75, 76, 77, 78, 79, 80, 81, 82, 83, 84, 85, 86, 87, 88, 89, 90, 45]
theorem name_byte (c : UInt8) : Own.nameByte c = names.contains c := all_u8 (p := fun c => Own.nameByte c = names.contains c) (by decide +kernel) c
def own (l : List UInt8) : Bool := pre [33] l && decide (l.length ≤ 41) && only (l.drop 1) names
theorem own1 (l : List UInt8) : tag_own.f (ba l) = some (own l) := by
  unfold tag_own.f own
  rw [show (⟨#[33]⟩ : ByteArray) = ba [33] from rfl, cut_eq]
  simp only [Option.bind_some]
  congr 1
  by_cases h : pre [33] l = true
  · rw [if_pos h, h]
    unfold tag_own.g
    dsimp only
    rw [toList_mk, size_mk, Bool.true_and, Bool.true_and, show [(33 : UInt8)].length = 1 from rfl]
    have hl := pre_le h
    have h1 : decide ((l.drop 1).length ≤ 40) = decide (l.length ≤ 41) := by
      rw [List.length_drop]; rw [Bool.eq_iff_iff]; simp
    rw [h1]
    unfold only
    rw [show (l.drop 1).all Own.nameByte = (l.drop 1).all names.contains from by congr 1; funext c; exact name_byte c]
    cases l.drop 1 <;> simp [Bool.and_comm]
  · rw [if_neg h, Bool.eq_false_iff.mpr h]
    rfl
theorem plain_some (l : List UInt8) : tag_plain.f (ba l) = some (decide (l ∈ plains)) := by
  unfold tag_plain.f
  rw [toList_mk]
  by_cases h : l ∈ plains
  · rw [decide_eq_true h]
    simp only [plains, List.mem_cons, List.not_mem_nil, or_false] at h
    rcases h with rfl | rfl | rfl | rfl <;> rfl
  · rw [decide_eq_false h]
    simp only [plains, List.mem_cons, List.not_mem_nil, or_false, not_or] at h
    obtain ⟨a1, a2, a3, a4⟩ := h
    rw [if_neg a1, if_neg a2, if_neg a3, beq_eq_false_iff_ne.mpr a4]
theorem core1 (l : List UInt8) : tag_Core.f (ba l) = some (decide (l ∈ cores)) := by
  unfold tag_Core.f
  rw [toList_mk, plain_some]
  simp only [Option.bind_some]
  by_cases h : l ∈ cores
  · rw [decide_eq_true h]
    simp only [cores, List.mem_cons, List.not_mem_nil, or_false] at h
    rcases h with rfl | rfl | rfl | rfl | rfl | rfl | rfl <;> rfl
  · rw [decide_eq_false h]
    simp only [cores, List.mem_cons, List.not_mem_nil, or_false, not_or] at h
    obtain ⟨a1, a2, a3, a4, a5, a6, a7⟩ := h
    rw [if_neg a6, if_neg a7, if_neg a5, decide_eq_false (by simp only [plains, List.mem_cons, List.not_mem_nil, or_false, not_or]; exact ⟨a1, a2, a3, a4⟩)]
def fits (t s : List UInt8) : Bool := if t ∈ plains then (if R1 s = t then true else if t = bFloat then R1 s == bInt else false) else if t = bStr then true else own t
theorem fits1 (t s : List UInt8) (k : Nat) (hs : s.length ≤ 2000) (hk : 300001 ≤ k) : tag_Fits.f k (ba t) (ba s) = some (fits t s) := by
  unfold tag_Fits.f fits
  rw [plain_some, resolve1 s k hs hk, own1]
  simp only [Option.bind_some, toList_mk]
  by_cases h : t ∈ plains
  · rw [if_pos (decide_eq_true h), if_pos h]
    by_cases h1 : R1 s = t
    · rw [if_pos h1, if_pos h1]
    · rw [if_neg h1, if_neg h1]
      by_cases h2 : t = bFloat
      · rw [if_pos h2, if_pos h2]
      · rw [if_neg h2, if_neg h2]
  · rw [if_neg (by rw [decide_eq_false h]; decide), if_neg h]
    by_cases h2 : t = bStr
    · rw [if_pos h2, if_pos h2]
    · rw [if_neg h2, if_neg h2]
def right (t : List UInt8) : Bool := decide (t ∈ cores) || own t
theorem right1 (t : List UInt8) : tag_Right.f (ba t) = some (right t) := by
  unfold tag_Right.f right
  rw [core1, own1]
  simp only [Option.bind_some]
  by_cases h : t ∈ cores
  · rw [if_pos (decide_eq_true h), decide_eq_true h]; rfl
  · rw [if_neg (by rw [decide_eq_false h]; decide), decide_eq_false h]; rfl
end Go.Proofs.YtgnmjaacnmkgnaaDoor.Impl
end
section
namespace Go.Proofs.YtgnmjaacnmkgnaaDoor.X
open Go.RowKit Go.Shelf Go.Proofs
set_option linter.unusedVariables false
set_option linter.unusedSimpArgs false
namespace Evt
def tagR (s : ByteArray) : Bool := Impl.right s.data.toList
theorem tagR_eq (s : ByteArray) : T.tag_Right.f s = some (tagR s) := by
  have := Impl.right1 s.data.toList
  have e : Impl.ba s.data.toList = s := by cases s; simp [Impl.ba]
  rw [e] at this; exact this
def plainE (x : Ev) : Bool := x.anchor.toList.isEmpty && (x.tag.toList.isEmpty && (x.text.toList.isEmpty && !x.plain))
def rightE (x : Ev) : Bool :=
  bif (decide (x.kind < 0) || decide (x.kind > 7)) || !(Lib.validD x.text.data.toList) then false
  else bif x.kind == 7 then ((T.lex_Name.g x.anchor && x.tag.toList.isEmpty) && x.text.toList.isEmpty) && !x.plain
  else bif !(isNode x.kind) then plainE x
  else bif !(x.kind == 6) && (!(x.text.toList.isEmpty) || x.plain) then false
  else (x.anchor.toList.isEmpty || T.lex_Name.g x.anchor) && (x.tag.toList.isEmpty || tagR x.tag)
end Evt
end Go.Proofs.YtgnmjaacnmkgnaaDoor.X
end
