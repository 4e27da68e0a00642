/- Printed by a program of ours (wip/tools) out of the translation: each function as a plain Lean function, and a proof that the call answers so. -/
import Derived.Test.YtmedojlhnpcniaaX0
import Derived.Test.YtmedojlhnpcniaaX8
namespace Go.Proofs.Ytmedojlhnpcniaa.X
open Go.RowKit Go.Proofs.YtmedojlhnpcniaaW.PrintWords Go.Proofs.YtmedojlhnpcniaaW.PrintLast Go.Proofs.YtmedojlhnpcniaaW.PrintMore
attribute [local go_sem] max2_int min2_int max_two min_two max_three min_three max_four min_four   -- for this text's walks alone
set_option linter.unusedVariables false
set_option linter.unusedSimpArgs false

/-! ### grilleref03_find: function 35 -/
def grilleref03_find.l0 : Nat → ByteArray → Int → Int → Int → Option (Int)
  | 0, _, _, _, _ => none
  | k + 1, x0, x1, x2, x7 => if x7 < (x0.size : Int) then (if 0 ≤ x7 then (if (bt x0 x7) = x1 then (some x7) else (if (bt x0 x7) = x2 then (some x7) else (grilleref03_find.l0 k x0 x1 x2 (wrap64 (x7 + 1))))) else (none)) else (some (x0.size : Int))
def grilleref03_find.f (k : Nat) (a0 : ByteArray) (a1 : Int) (a2 : Int) : Option (Int) := grilleref03_find.l0 k a0 a1 a2 0
theorem grilleref03_find.mono_l : ∀ k, (∀ y0 y1 y2 y3, LeO (grilleref03_find.l0 k y0 y1 y2 y3) (grilleref03_find.l0 (k + 1) y0 y1 y2 y3))
  | 0 => fun _ _ _ _ r h => by simp [grilleref03_find.l0] at h
  | k + 1 => by
    have ih0 := grilleref03_find.mono_l k
    · intro y0 y1 y2 y3
      unfold grilleref03_find.l0
      repeat' first
      | (with_reducible exact ih0 _ _ _ _)
      | (with_reducible exact LeO.refl _)
      | (with_reducible exact LeO.none _)
      | (with_reducible refine LeO.ite ?_ ?_)
      | (with_reducible refine LeO.bind ?_ (fun _ => ?_))
      | exact ih0 _ _ _ _
      | exact LeO.none _
      | refine LeO.ite ?_ ?_
      | refine LeO.bind ?_ (fun _ => ?_)
theorem grilleref03_find.mono : ∀ a0 a1 a2 k, LeO (grilleref03_find.f k a0 a1 a2) (grilleref03_find.f (k + 1) a0 a1 a2) := by
  intro a0 a1 a2 k
  have ih0 := grilleref03_find.mono_l k
  unfold grilleref03_find.f
  repeat' first
      | (with_reducible exact ih0 _ _ _ _)
      | (with_reducible exact LeO.refl _)
      | (with_reducible exact LeO.none _)
      | (with_reducible refine LeO.ite ?_ ?_)
      | (with_reducible refine LeO.bind ?_ (fun _ => ?_))
      | exact ih0 _ _ _ _
      | exact LeO.none _
      | refine LeO.ite ?_ ?_
      | refine LeO.bind ?_ (fun _ => ?_)
set_option maxHeartbeats 8000000 in
set_option maxRecDepth 100000 in
theorem grilleref03_find.calls (k : Nat) (a0 : ByteArray) (a1 : Int) (a2 : Int) (r : Int) (w : World) (h : grilleref03_find.f k a0 a1 a2 = some r) :
    Calls Try.prog 35 #[.string a0, .int .u8 a1, .int .u8 a2] w fun e w' => e = .returned (.int .i64 r) ∧ Drawn0 w w' := by
  have H : (grilleref03_find.l0 k a0 a1 a2 0) = some r := h
  clear h
  have H' := Aside0.mk H
  clear H
  go_enter Try.func35, Try.ntmps35
  go_wp2
  go_loopg [7] k (fun kq v7 w' => ∃ (x7_1 : Int), v7 = .int .i64 x7_1 ∧ Aside0 (grilleref03_find.l0 kq a0 a1 a2 x7_1 = some r) ∧ Aside0 (kq ≤ k) ∧ Drawn0 w w')
  case atStart => exact ⟨(0), (by first | rfl | (simp; done) | (simp [*]; done) | (simp [xbne_nil, xbeq_nil]; done)), H', ⟨Nat.le_refl _⟩, by repeat (first | exact Drawn0.refl _ | apply Drawn0.step)⟩
  case round =>
    clear H'
    try clear p2
    try clear c3
    obtain ⟨x7_1, rfl, HA, HK1, ⟨m1, rfl⟩⟩ := hrel
    cases gk with
    | zero => exact absurd HA.out (by simp [grilleref03_find.l0])
    | succ k1 =>
      have H := HA.out
      clear HA
      simp only [grilleref03_find.l0] at H
      by_cases c4 : x7_1 < (a0.size : Int)
      · rw [if_pos c4] at H
        have c4b0 : decide (x7_1 < (a0.size : Int)) = true := decide_eq_true c4
        clear c4
        by_cases c5 : 0 ≤ x7_1
        · rw [if_pos c5] at H
          have c5b0 : decide (0 ≤ x7_1) = true := decide_eq_true c5
          clear c5
          by_cases c7 : (bt a0 x7_1) = a1
          · rw [if_pos c7] at H
            have c7b0 : ((bt a0 x7_1) == a1) = true := beq_iff_eq.mpr c7
            have c7b1 : ((bt a0 x7_1) != a1) = false := bne_eq_false_iff_eq.mpr c7
            clear c7
            obtain rfl := Option.some.inj H
            have p6 : 0 ≤ (x7_1 : Int) := of_decide_eq_true (by first | (with_reducible assumption) | assumption)
            have q6 : x7_1 < (a0.size : Int) := of_decide_eq_true (by first | (with_reducible assumption) | assumption)
            have hx6 := bt_at a0 x7_1
            replace p6 := eq_true p6
            replace q6 := eq_true q6
            go_wp2
            go_ret
            exact ⟨by first | rfl | (simp; done) | (simp [*]; done) | (simp [xbne_nil, xbeq_nil]; done), by repeat (first | exact Drawn0.refl _ | apply Drawn0.step)⟩
          · rw [if_neg c7] at H
            have c7b0 : ((bt a0 x7_1) == a1) = false := beq_eq_false_iff_ne.mpr c7
            have c7b1 : ((bt a0 x7_1) != a1) = true := bne_iff_ne.mpr c7
            by_cases c9 : (bt a0 x7_1) = a2
            · rw [if_pos c9] at H
              have c9b0 : ((bt a0 x7_1) == a2) = true := beq_iff_eq.mpr c9
              have c9b1 : ((bt a0 x7_1) != a2) = false := bne_eq_false_iff_eq.mpr c9
              clear c9
              obtain rfl := Option.some.inj H
              have p6 : 0 ≤ (x7_1 : Int) := of_decide_eq_true (by first | (with_reducible assumption) | assumption)
              have q6 : x7_1 < (a0.size : Int) := of_decide_eq_true (by first | (with_reducible assumption) | assumption)
              have hx6 := bt_at a0 x7_1
              replace p6 := eq_true p6
              replace q6 := eq_true q6
              have p8 : 0 ≤ (x7_1 : Int) := of_decide_eq_true (by first | (with_reducible assumption) | assumption)
              have q8 : x7_1 < (a0.size : Int) := of_decide_eq_true (by first | (with_reducible assumption) | assumption)
              have hx8 := bt_at a0 x7_1
              replace p8 := eq_true p8
              replace q8 := eq_true q8
              go_wp2
              go_ret
              exact ⟨by first | rfl | (simp; done) | (simp [*]; done) | (simp [xbne_nil, xbeq_nil]; done), by repeat (first | exact Drawn0.refl _ | apply Drawn0.step)⟩
            · rw [if_neg c9] at H
              have c9b0 : ((bt a0 x7_1) == a2) = false := beq_eq_false_iff_ne.mpr c9
              have c9b1 : ((bt a0 x7_1) != a2) = true := bne_iff_ne.mpr c9
              have H' := Aside0.mk H
              clear H
              have p6 : 0 ≤ (x7_1 : Int) := of_decide_eq_true (by first | (with_reducible assumption) | assumption)
              have q6 : x7_1 < (a0.size : Int) := of_decide_eq_true (by first | (with_reducible assumption) | assumption)
              have hx6 := bt_at a0 x7_1
              replace p6 := eq_true p6
              replace q6 := eq_true q6
              have p8 : 0 ≤ (x7_1 : Int) := of_decide_eq_true (by first | (with_reducible assumption) | assumption)
              have q8 : x7_1 < (a0.size : Int) := of_decide_eq_true (by first | (with_reducible assumption) | assumption)
              have hx8 := bt_at a0 x7_1
              replace p8 := eq_true p8
              replace q8 := eq_true q8
              go_wp2
              go_roundg k1
              case measure => have := HK1.out; omega
              case rel => exact ⟨(wrap64 (x7_1 + 1)), (by first | rfl | (simp; done) | (simp [*]; done) | (simp [xbne_nil, xbeq_nil]; done)), H', ⟨by have := HK1.out; omega⟩, by repeat (first | exact Drawn0.refl _ | apply Drawn0.step)⟩
        · rw [if_neg c5] at H
          exact absurd H (by simp)
      · rw [if_neg c4] at H
        have c4b0 : decide (x7_1 < (a0.size : Int)) = false := decide_eq_false c4
        clear c4
        obtain rfl := Option.some.inj H
        go_wp2
        go_ret
        exact ⟨by first | rfl | (simp; done) | (simp [*]; done) | (simp [xbne_nil, xbeq_nil]; done), by repeat (first | exact Drawn0.refl _ | apply Drawn0.step)⟩

/-! ### grilleref03_fraction: function 36 -/
def grilleref03_fraction.f (k : Nat) (a0 : ByteArray) : Option (Bool) := (grilleref03_find.f k a0 46 46).bind fun t159 => (if t159 = (a0.size : Int) then ((grilleref03_only.f k a0 (⟨#[48, 49, 50, 51, 52, 53, 54, 55, 56, 57]⟩ : ByteArray)).bind fun t160 => (some t160)) else (if 0 ≤ (wrap64 (t159 + 1)) then (if (wrap64 (t159 + 1)) ≤ (a0.size : Int) then (if t159 = 0 then ((grilleref03_only.f k (a0.extract ((wrap64 (t159 + 1)) : Int).toNat a0.size) (⟨#[48, 49, 50, 51, 52, 53, 54, 55, 56, 57]⟩ : ByteArray)).bind fun t161 => (some t161)) else (if 0 ≤ t159 then (if t159 ≤ (a0.size : Int) then ((grilleref03_only.f k (a0.extract 0 (t159 : Int).toNat) (⟨#[48, 49, 50, 51, 52, 53, 54, 55, 56, 57]⟩ : ByteArray)).bind fun t162 => (if t162 = true then (if (a0.extract ((wrap64 (t159 + 1)) : Int).toNat a0.size).toList = ([] : List UInt8) then (some true) else ((grilleref03_only.f k (a0.extract ((wrap64 (t159 + 1)) : Int).toNat a0.size) (⟨#[48, 49, 50, 51, 52, 53, 54, 55, 56, 57]⟩ : ByteArray)).bind fun t163 => (some t163))) else (some false))) else (none)) else (none))) else (none)) else (none)))
theorem grilleref03_fraction.mono : ∀ a0 k, LeO (grilleref03_fraction.f k a0) (grilleref03_fraction.f (k + 1) a0) := by
  intro a0 k
  unfold grilleref03_fraction.f
  repeat' first
      | (with_reducible exact grilleref03_find.mono _ _ _ _)
      | (with_reducible exact grilleref03_only.mono _ _ _)
      | (with_reducible exact LeO.refl _)
      | (with_reducible exact LeO.none _)
      | (with_reducible refine LeO.ite ?_ ?_)
      | (with_reducible refine LeO.bind ?_ (fun _ => ?_))
      | exact grilleref03_find.mono _ _ _ _
      | exact grilleref03_only.mono _ _ _
      | exact LeO.none _
      | refine LeO.ite ?_ ?_
      | refine LeO.bind ?_ (fun _ => ?_)
set_option maxHeartbeats 8000000 in
set_option maxRecDepth 100000 in
theorem grilleref03_fraction.calls (k : Nat) (a0 : ByteArray) (r : Bool) (w : World) (h : grilleref03_fraction.f k a0 = some r) :
    Calls Try.prog 36 #[.string a0] w fun e w' => e = .returned (.bool r) ∧ Drawn0 w w' := by
  have H : ((grilleref03_find.f k a0 46 46).bind fun t159 => (if t159 = (a0.size : Int) then ((grilleref03_only.f k a0 (⟨#[48, 49, 50, 51, 52, 53, 54, 55, 56, 57]⟩ : ByteArray)).bind fun t160 => (some t160)) else (if 0 ≤ (wrap64 (t159 + 1)) then (if (wrap64 (t159 + 1)) ≤ (a0.size : Int) then (if t159 = 0 then ((grilleref03_only.f k (a0.extract ((wrap64 (t159 + 1)) : Int).toNat a0.size) (⟨#[48, 49, 50, 51, 52, 53, 54, 55, 56, 57]⟩ : ByteArray)).bind fun t161 => (some t161)) else (if 0 ≤ t159 then (if t159 ≤ (a0.size : Int) then ((grilleref03_only.f k (a0.extract 0 (t159 : Int).toNat) (⟨#[48, 49, 50, 51, 52, 53, 54, 55, 56, 57]⟩ : ByteArray)).bind fun t162 => (if t162 = true then (if (a0.extract ((wrap64 (t159 + 1)) : Int).toNat a0.size).toList = ([] : List UInt8) then (some true) else ((grilleref03_only.f k (a0.extract ((wrap64 (t159 + 1)) : Int).toNat a0.size) (⟨#[48, 49, 50, 51, 52, 53, 54, 55, 56, 57]⟩ : ByteArray)).bind fun t163 => (some t163))) else (some false))) else (none)) else (none))) else (none)) else (none)))) = some r := h
  clear h
  replace H := Option.bind_eq_some_iff.mp H
  obtain ⟨t159, A20, H⟩ := H
  replace H : (if t159 = (a0.size : Int) then ((grilleref03_only.f k a0 (⟨#[48, 49, 50, 51, 52, 53, 54, 55, 56, 57]⟩ : ByteArray)).bind fun t160 => (some t160)) else (if 0 ≤ (wrap64 (t159 + 1)) then (if (wrap64 (t159 + 1)) ≤ (a0.size : Int) then (if t159 = 0 then ((grilleref03_only.f k (a0.extract ((wrap64 (t159 + 1)) : Int).toNat a0.size) (⟨#[48, 49, 50, 51, 52, 53, 54, 55, 56, 57]⟩ : ByteArray)).bind fun t161 => (some t161)) else (if 0 ≤ t159 then (if t159 ≤ (a0.size : Int) then ((grilleref03_only.f k (a0.extract 0 (t159 : Int).toNat) (⟨#[48, 49, 50, 51, 52, 53, 54, 55, 56, 57]⟩ : ByteArray)).bind fun t162 => (if t162 = true then (if (a0.extract ((wrap64 (t159 + 1)) : Int).toNat a0.size).toList = ([] : List UInt8) then (some true) else ((grilleref03_only.f k (a0.extract ((wrap64 (t159 + 1)) : Int).toNat a0.size) (⟨#[48, 49, 50, 51, 52, 53, 54, 55, 56, 57]⟩ : ByteArray)).bind fun t163 => (some t163))) else (some false))) else (none)) else (none))) else (none)) else (none))) = some r := H
  have A2 := Aside0.mk A20
  clear A20
  by_cases c3 : t159 = (a0.size : Int)
  · rw [if_pos c3] at H
    have c3b0 : (t159 == (a0.size : Int)) = true := beq_iff_eq.mpr c3
    have c3b1 : (t159 != (a0.size : Int)) = false := bne_eq_false_iff_eq.mpr c3
    clear c3
    replace H := Option.bind_eq_some_iff.mp H
    obtain ⟨t160, A40, H⟩ := H
    replace H : (some t160) = some r := H
    have A4 := Aside0.mk A40
    clear A40
    obtain rfl := Option.some.inj H
    go_enter Try.func36, Try.ntmps36
    go_wp2_with (first | ((with_reducible refine gate_callee (f := 35) rfl ?_); refine goesL_ (some 6) rfl rfl Try.func35 (by kernel_rfl) rfl #[.string a0, .int .u8 46, .int .u8 46] rfl (by (try simp only [List.map_toArray, List.map_cons, List.map_nil]); first | done | rfl | (simp only [List.length_drop, List.length_take]; rfl)) ?_; (with_reducible refine (grilleref03_find.calls k a0 46 46 t159 _ A2.out).mono ?_); rintro e w' ⟨rfl, ⟨nd, rfl⟩⟩; refine ⟨_, rfl, ?_⟩) | ((with_reducible refine gate_callee (f := 33) rfl ?_); refine goesL_ (some 12) rfl rfl Try.func33 (by kernel_rfl) rfl #[.string a0, .string (⟨#[48, 49, 50, 51, 52, 53, 54, 55, 56, 57]⟩ : ByteArray)] rfl (by (try simp only [List.map_toArray, List.map_cons, List.map_nil]); first | done | rfl | (simp only [List.length_drop, List.length_take]; rfl)) ?_; (with_reducible refine (grilleref03_only.calls k a0 (⟨#[48, 49, 50, 51, 52, 53, 54, 55, 56, 57]⟩ : ByteArray) t160 _ A4.out).mono ?_); rintro e w' ⟨rfl, ⟨nd, rfl⟩⟩; refine ⟨_, rfl, ?_⟩))
    go_ret
    exact ⟨by first | rfl | (simp; done) | (simp [*]; done) | (simp [xbne_nil, xbeq_nil]; done), by repeat (first | exact Drawn0.refl _ | apply Drawn0.step)⟩
  · rw [if_neg c3] at H
    have c3b0 : (t159 == (a0.size : Int)) = false := beq_eq_false_iff_ne.mpr c3
    have c3b1 : (t159 != (a0.size : Int)) = true := bne_iff_ne.mpr c3
    obtain ⟨ji5, hji5⟩ : ∃ j_ : Int, (wrap64 (t159 + 1)) = j_ := ⟨_, rfl⟩
    replace H : (if 0 ≤ (ji5) then (if (ji5) ≤ (a0.size : Int) then (if t159 = 0 then ((grilleref03_only.f k (a0.extract ((ji5) : Int).toNat a0.size) (⟨#[48, 49, 50, 51, 52, 53, 54, 55, 56, 57]⟩ : ByteArray)).bind fun t161 => (some t161)) else (if 0 ≤ t159 then (if t159 ≤ (a0.size : Int) then ((grilleref03_only.f k (a0.extract 0 (t159 : Int).toNat) (⟨#[48, 49, 50, 51, 52, 53, 54, 55, 56, 57]⟩ : ByteArray)).bind fun t162 => (if t162 = true then (if (a0.extract ((ji5) : Int).toNat a0.size).toList = ([] : List UInt8) then (some true) else ((grilleref03_only.f k (a0.extract ((ji5) : Int).toNat a0.size) (⟨#[48, 49, 50, 51, 52, 53, 54, 55, 56, 57]⟩ : ByteArray)).bind fun t163 => (some t163))) else (some false))) else (none)) else (none))) else (none)) else (none)) = some r := by first | (rw [hji5] at H; exact H) | (simp only [hji5] at H ⊢; exact H)
    (try rw [hji5] at A2)
    have hji5w : (IntKind.i64.wrap (t159 + 1)) = ji5 := (i64_w _).trans hji5
    by_cases c6 : 0 ≤ (ji5)
    · rw [if_pos c6] at H
      have c6b0 := eq_true c6
      have c6b1 : decide (0 ≤ (ji5)) = true := decide_eq_true c6
      clear c6
      by_cases c7 : (ji5) ≤ (a0.size : Int)
      · rw [if_pos c7] at H
        have c7b0 := eq_true c7
        have c7b1 : decide ((ji5) ≤ (a0.size : Int)) = true := decide_eq_true c7
        clear c7
        by_cases c8 : t159 = 0
        · rw [if_pos c8] at H
          have c8b0 : (t159 == 0) = true := beq_iff_eq.mpr c8
          have c8b1 : (t159 != 0) = false := bne_eq_false_iff_eq.mpr c8
          clear c8
          replace H := Option.bind_eq_some_iff.mp H
          obtain ⟨t161, A90, H⟩ := H
          replace H : (some t161) = some r := H
          have A9 := Aside0.mk A90
          clear A90
          obtain rfl := Option.some.inj H
          go_enter Try.func36, Try.ntmps36
          go_wp2_with (first | ((with_reducible refine gate_callee (f := 35) rfl ?_); refine goesL_ (some 6) rfl rfl Try.func35 (by kernel_rfl) rfl #[.string a0, .int .u8 46, .int .u8 46] rfl (by (try simp only [List.map_toArray, List.map_cons, List.map_nil]); first | done | rfl | (simp only [List.length_drop, List.length_take]; rfl)) ?_; (with_reducible refine (grilleref03_find.calls k a0 46 46 t159 _ A2.out).mono ?_); rintro e w' ⟨rfl, ⟨nd, rfl⟩⟩; refine ⟨_, rfl, ?_⟩) | ((with_reducible refine gate_callee (f := 33) rfl ?_); refine goesL_ (some 20) rfl rfl Try.func33 (by kernel_rfl) rfl #[.string (a0.extract ((ji5) : Int).toNat a0.size), .string (⟨#[48, 49, 50, 51, 52, 53, 54, 55, 56, 57]⟩ : ByteArray)] rfl (by (try simp only [List.map_toArray, List.map_cons, List.map_nil]); first | done | (simp only [hji5]; rfl) | rfl | (simp only [List.length_drop, List.length_take]; rfl)) ?_; (with_reducible refine (grilleref03_only.calls k (a0.extract ((ji5) : Int).toNat a0.size) (⟨#[48, 49, 50, 51, 52, 53, 54, 55, 56, 57]⟩ : ByteArray) t161 _ A9.out).mono ?_); rintro e w' ⟨rfl, ⟨nd, rfl⟩⟩; refine ⟨_, rfl, ?_⟩))
          go_ret
          exact ⟨by first | rfl | (simp; done) | (simp only [← hji5] <;> (first | rfl | simp)) | (simp [*]; done), by repeat (first | exact Drawn0.refl _ | apply Drawn0.step)⟩
        · rw [if_neg c8] at H
          have c8b0 : (t159 == 0) = false := beq_eq_false_iff_ne.mpr c8
          have c8b1 : (t159 != 0) = true := bne_iff_ne.mpr c8
          by_cases c10 : 0 ≤ t159
          · rw [if_pos c10] at H
            have c10b0 := eq_true c10
            have c10b1 : decide (0 ≤ t159) = true := decide_eq_true c10
            clear c10
            by_cases c11 : t159 ≤ (a0.size : Int)
            · rw [if_pos c11] at H
              have c11b0 := eq_true c11
              have c11b1 : decide (t159 ≤ (a0.size : Int)) = true := decide_eq_true c11
              clear c11
              replace H := Option.bind_eq_some_iff.mp H
              obtain ⟨t162, A120, H⟩ := H
              replace H : (if t162 = true then (if (a0.extract ((ji5) : Int).toNat a0.size).toList = ([] : List UInt8) then (some true) else ((grilleref03_only.f k (a0.extract ((ji5) : Int).toNat a0.size) (⟨#[48, 49, 50, 51, 52, 53, 54, 55, 56, 57]⟩ : ByteArray)).bind fun t163 => (some t163))) else (some false)) = some r := H
              have A12 := Aside0.mk A120
              clear A120
              by_cases c13 : t162 = true
              · subst c13
                have H1 : (if (a0.extract ((ji5) : Int).toNat a0.size).toList = ([] : List UInt8) then (some true) else ((grilleref03_only.f k (a0.extract ((ji5) : Int).toNat a0.size) (⟨#[48, 49, 50, 51, 52, 53, 54, 55, 56, 57]⟩ : ByteArray)).bind fun t163 => (some t163))) = some r := by rw [if_pos rfl] at H; exact H
                clear H
                have H := H1
                clear H1
                by_cases c14 : (a0.extract ((ji5) : Int).toNat a0.size).toList = ([] : List UInt8)
                · rw [if_pos c14] at H
                  have c14b0 : ((a0.extract ((ji5) : Int).toNat a0.size).toList == ([] : List UInt8)) = true := beq_iff_eq.mpr c14
                  have c14b1 : ((a0.extract ((ji5) : Int).toNat a0.size).toList != ([] : List UInt8)) = false := bne_eq_false_iff_eq.mpr c14
                  clear c14
                  obtain rfl := Option.some.inj H
                  go_enter Try.func36, Try.ntmps36
                  go_wp2_with (first | ((with_reducible refine gate_callee (f := 35) rfl ?_); refine goesL_ (some 6) rfl rfl Try.func35 (by kernel_rfl) rfl #[.string a0, .int .u8 46, .int .u8 46] rfl (by (try simp only [List.map_toArray, List.map_cons, List.map_nil]); first | done | rfl | (simp only [List.length_drop, List.length_take]; rfl)) ?_; (with_reducible refine (grilleref03_find.calls k a0 46 46 t159 _ A2.out).mono ?_); rintro e w' ⟨rfl, ⟨nd, rfl⟩⟩; refine ⟨_, rfl, ?_⟩) | ((with_reducible refine gate_callee (f := 33) rfl ?_); refine goesL_ (some 24) rfl rfl Try.func33 (by kernel_rfl) rfl #[.string (a0.extract 0 (t159 : Int).toNat), .string (⟨#[48, 49, 50, 51, 52, 53, 54, 55, 56, 57]⟩ : ByteArray)] rfl (by (try simp only [List.map_toArray, List.map_cons, List.map_nil]); first | done | rfl | (simp only [List.length_drop, List.length_take]; rfl)) ?_; (with_reducible refine (grilleref03_only.calls k (a0.extract 0 (t159 : Int).toNat) (⟨#[48, 49, 50, 51, 52, 53, 54, 55, 56, 57]⟩ : ByteArray) true _ A12.out).mono ?_); rintro e w' ⟨rfl, ⟨nd, rfl⟩⟩; refine ⟨_, rfl, ?_⟩))
                  go_ret
                  exact ⟨by first | rfl | (simp; done) | (simp only [← hji5] <;> (first | rfl | simp)) | (simp [*]; done), by repeat (first | exact Drawn0.refl _ | apply Drawn0.step)⟩
                · rw [if_neg c14] at H
                  have c14b0 : ((a0.extract ((ji5) : Int).toNat a0.size).toList == ([] : List UInt8)) = false := beq_eq_false_iff_ne.mpr c14
                  have c14b1 : ((a0.extract ((ji5) : Int).toNat a0.size).toList != ([] : List UInt8)) = true := bne_iff_ne.mpr c14
                  replace H := Option.bind_eq_some_iff.mp H
                  obtain ⟨t163, A150, H⟩ := H
                  replace H : (some t163) = some r := H
                  have A15 := Aside0.mk A150
                  clear A150
                  obtain rfl := Option.some.inj H
                  go_enter Try.func36, Try.ntmps36
                  go_wp2_with (first | ((with_reducible refine gate_callee (f := 35) rfl ?_); refine goesL_ (some 6) rfl rfl Try.func35 (by kernel_rfl) rfl #[.string a0, .int .u8 46, .int .u8 46] rfl (by (try simp only [List.map_toArray, List.map_cons, List.map_nil]); first | done | rfl | (simp only [List.length_drop, List.length_take]; rfl)) ?_; (with_reducible refine (grilleref03_find.calls k a0 46 46 t159 _ A2.out).mono ?_); rintro e w' ⟨rfl, ⟨nd, rfl⟩⟩; refine ⟨_, rfl, ?_⟩) | ((with_reducible refine gate_callee (f := 33) rfl ?_); refine goesL_ (some 24) rfl rfl Try.func33 (by kernel_rfl) rfl #[.string (a0.extract 0 (t159 : Int).toNat), .string (⟨#[48, 49, 50, 51, 52, 53, 54, 55, 56, 57]⟩ : ByteArray)] rfl (by (try simp only [List.map_toArray, List.map_cons, List.map_nil]); first | done | rfl | (simp only [List.length_drop, List.length_take]; rfl)) ?_; (with_reducible refine (grilleref03_only.calls k (a0.extract 0 (t159 : Int).toNat) (⟨#[48, 49, 50, 51, 52, 53, 54, 55, 56, 57]⟩ : ByteArray) true _ A12.out).mono ?_); rintro e w' ⟨rfl, ⟨nd, rfl⟩⟩; refine ⟨_, rfl, ?_⟩) | (go_at_call 33; (with_reducible refine (grilleref03_only.calls k (a0.extract ((ji5) : Int).toNat a0.size) (⟨#[48, 49, 50, 51, 52, 53, 54, 55, 56, 57]⟩ : ByteArray) t163 _ A15.out).mono ?_); rintro e w' ⟨rfl, ⟨nd, rfl⟩⟩))
                  go_ret
                  exact ⟨by first | rfl | (simp; done) | (simp only [← hji5] <;> (first | rfl | simp)) | (simp [*]; done), by repeat (first | exact Drawn0.refl _ | apply Drawn0.step)⟩
              · replace c13 := Bool.eq_false_iff.mpr c13
                subst c13
                have H1 : (some false) = some r := by rw [if_neg (show ¬ (false = true) by decide)] at H; exact H
                clear H
                have H := H1
                clear H1
                obtain rfl := Option.some.inj H
                go_enter Try.func36, Try.ntmps36
                go_wp2_with (first | ((with_reducible refine gate_callee (f := 35) rfl ?_); refine goesL_ (some 6) rfl rfl Try.func35 (by kernel_rfl) rfl #[.string a0, .int .u8 46, .int .u8 46] rfl (by (try simp only [List.map_toArray, List.map_cons, List.map_nil]); first | done | rfl | (simp only [List.length_drop, List.length_take]; rfl)) ?_; (with_reducible refine (grilleref03_find.calls k a0 46 46 t159 _ A2.out).mono ?_); rintro e w' ⟨rfl, ⟨nd, rfl⟩⟩; refine ⟨_, rfl, ?_⟩) | ((with_reducible refine gate_callee (f := 33) rfl ?_); refine goesL_ (some 24) rfl rfl Try.func33 (by kernel_rfl) rfl #[.string (a0.extract 0 (t159 : Int).toNat), .string (⟨#[48, 49, 50, 51, 52, 53, 54, 55, 56, 57]⟩ : ByteArray)] rfl (by (try simp only [List.map_toArray, List.map_cons, List.map_nil]); first | done | rfl | (simp only [List.length_drop, List.length_take]; rfl)) ?_; (with_reducible refine (grilleref03_only.calls k (a0.extract 0 (t159 : Int).toNat) (⟨#[48, 49, 50, 51, 52, 53, 54, 55, 56, 57]⟩ : ByteArray) false _ A12.out).mono ?_); rintro e w' ⟨rfl, ⟨nd, rfl⟩⟩; refine ⟨_, rfl, ?_⟩))
                go_ret
                exact ⟨by first | rfl | (simp; done) | (simp only [← hji5] <;> (first | rfl | simp)) | (simp [*]; done), by repeat (first | exact Drawn0.refl _ | apply Drawn0.step)⟩
            · rw [if_neg c11] at H
              exact absurd H (by simp)
          · rw [if_neg c10] at H
            exact absurd H (by simp)
      · rw [if_neg c7] at H
        exact absurd H (by simp)
    · rw [if_neg c6] at H
      exact absurd H (by simp)

end Go.Proofs.Ytmedojlhnpcniaa.X
