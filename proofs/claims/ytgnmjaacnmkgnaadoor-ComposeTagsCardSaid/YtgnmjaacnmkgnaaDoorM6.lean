/- Words and walks that the row of ComposeTags needs: printed by programs, and plain laws. -/
import Derived.Test.YtgnmjaacnmkgnaaDoorM3
import Derived.Test.YtgnmjaacnmkgnaaDoorM5
namespace Go.Proofs.YtgnmjaacnmkgnaaDoorW.PrintWords
end Go.Proofs.YtgnmjaacnmkgnaaDoorW.PrintWords
namespace Go.Proofs.YtgnmjaacnmkgnaaDoorW.PrintLast
end Go.Proofs.YtgnmjaacnmkgnaaDoorW.PrintLast
namespace Go.Proofs.YtgnmjaacnmkgnaaDoorW.PrintMore
end Go.Proofs.YtgnmjaacnmkgnaaDoorW.PrintMore
section
namespace Go.Proofs.YtgnmjaacnmkgnaaDoor.T
open Go.RowKit Go.Proofs.YtgnmjaacnmkgnaaDoorW.PrintWords Go.Proofs.YtgnmjaacnmkgnaaDoorW.PrintLast Go.Proofs.YtgnmjaacnmkgnaaDoorW.PrintMore
attribute [local go_sem] max2_int min2_int max_two min_two
set_option linter.unusedVariables false
set_option linter.unusedSimpArgs false
def grilleref03_bare.f (a0 : ByteArray) : Option (ByteArray) := if a0.toList = ([] : List UInt8) then (some a0) else (if 0 < (a0.size : Int) then (if (bt a0 0) = 43 then (if 1 ≤ (a0.size : Int) then (some (a0.extract 1 a0.size)) else (none)) else (if (bt a0 0) = 45 then (if 1 ≤ (a0.size : Int) then (some (a0.extract 1 a0.size)) else (none)) else (some a0))) else (none))
set_option maxHeartbeats 8000000 in
set_option maxRecDepth 100000 in
theorem grilleref03_bare.calls (a0 : ByteArray) (r : ByteArray) (w : World) (h : grilleref03_bare.f a0 = some r) :
    Calls Tryd.prog 87 #[.string a0] w fun e w' => e = .returned (.string r) ∧ Drawn0 w w' := by
  have H : (if a0.toList = ([] : List UInt8) then (some a0) else (if 0 < (a0.size : Int) then (if (bt a0 0) = 43 then (if 1 ≤ (a0.size : Int) then (some (a0.extract 1 a0.size)) else (none)) else (if (bt a0 0) = 45 then (if 1 ≤ (a0.size : Int) then (some (a0.extract 1 a0.size)) else (none)) else (some a0))) else (none))) = some r := h
  clear h
  by_cases c2 : a0.toList = ([] : List UInt8)
  · rw [if_pos c2] at H
    have c2b0 : (a0.toList == ([] : List UInt8)) = true := beq_iff_eq.mpr c2
    have c2b1 : (a0.toList != ([] : List UInt8)) = false := bne_eq_false_iff_eq.mpr c2
    clear c2
    obtain rfl := Option.some.inj H
    go_enter Tryd.func87, Tryd.ntmps87
    go_wp2
    go_ret
    exact ⟨by first | rfl | (simp; done) | (simp [*]; done) | (simp [xbne_nil, xbeq_nil]; done), by repeat (first | exact Drawn0.refl _ | apply Drawn0.step)⟩
  · rw [if_neg c2] at H
    have c2b0 : (a0.toList == ([] : List UInt8)) = false := beq_eq_false_iff_ne.mpr c2
    have c2b1 : (a0.toList != ([] : List UInt8)) = true := bne_iff_ne.mpr c2
    by_cases c3 : 0 < (a0.size : Int)
    · rw [if_pos c3] at H
      have c3b0 : decide (0 < (a0.size : Int)) = true := decide_eq_true c3
      have c3b1 : decide (0 < a0.size) = true := decide_eq_true (by omega)
      clear c3
      by_cases c5 : (bt a0 0) = 43
      · rw [if_pos c5] at H
        have c5b0 : ((bt a0 0) == 43) = true := beq_iff_eq.mpr c5
        have c5b1 : ((bt a0 0) != 43) = false := bne_eq_false_iff_eq.mpr c5
        clear c5
        by_cases c6 : 1 ≤ (a0.size : Int)
        · rw [if_pos c6] at H
          have c6b0 := eq_true c6
          have c6b1 : decide (1 ≤ (a0.size : Int)) = true := decide_eq_true c6
          clear c6
          obtain rfl := Option.some.inj H
          have p4 : 0 ≤ (0 : Int) := (by omega)
          have q4 : 0 < a0.size := (by have : (0 : Int) < (a0.size : Int) := of_decide_eq_true (by first | (with_reducible assumption) | assumption); omega)
          have hx4 : ∀ h : 0 < a0.size, ((a0[0]'h).toNat : Int) = bt a0 0 := bt_at a0 0
          clear p4
          have qi4 : (0 < (a0.size : Int)) = True := eq_true (of_decide_eq_true (by first | (with_reducible assumption) | assumption))
          replace q4 := eq_true q4
          go_enter Tryd.func87, Tryd.ntmps87
          go_wp2
          go_ret
          exact ⟨by first | rfl | (simp; done) | (simp [*]; done) | (simp [xbne_nil, xbeq_nil]; done), by repeat (first | exact Drawn0.refl _ | apply Drawn0.step)⟩
        · rw [if_neg c6] at H
          exact absurd H (by simp)
      · rw [if_neg c5] at H
        have c5b0 : ((bt a0 0) == 43) = false := beq_eq_false_iff_ne.mpr c5
        have c5b1 : ((bt a0 0) != 43) = true := bne_iff_ne.mpr c5
        by_cases c8 : (bt a0 0) = 45
        · rw [if_pos c8] at H
          have c8b0 : ((bt a0 0) == 45) = true := beq_iff_eq.mpr c8
          have c8b1 : ((bt a0 0) != 45) = false := bne_eq_false_iff_eq.mpr c8
          clear c8
          by_cases c9 : 1 ≤ (a0.size : Int)
          · rw [if_pos c9] at H
            have c9b0 := eq_true c9
            have c9b1 : decide (1 ≤ (a0.size : Int)) = true := decide_eq_true c9
            clear c9
            obtain rfl := Option.some.inj H
            have p4 : 0 ≤ (0 : Int) := (by omega)
            have q4 : 0 < a0.size := (by have : (0 : Int) < (a0.size : Int) := of_decide_eq_true (by first | (with_reducible assumption) | assumption); omega)
            have hx4 : ∀ h : 0 < a0.size, ((a0[0]'h).toNat : Int) = bt a0 0 := bt_at a0 0
            clear p4
            have qi4 : (0 < (a0.size : Int)) = True := eq_true (of_decide_eq_true (by first | (with_reducible assumption) | assumption))
            replace q4 := eq_true q4
            have p7 : 0 ≤ (0 : Int) := (by omega)
            have q7 : 0 < a0.size := (by have : (0 : Int) < (a0.size : Int) := of_decide_eq_true (by first | (with_reducible assumption) | assumption); omega)
            have hx7 : ∀ h : 0 < a0.size, ((a0[0]'h).toNat : Int) = bt a0 0 := bt_at a0 0
            clear p7
            have qi7 : (0 < (a0.size : Int)) = True := eq_true (of_decide_eq_true (by first | (with_reducible assumption) | assumption))
            replace q7 := eq_true q7
            go_enter Tryd.func87, Tryd.ntmps87
            go_wp2
            go_ret
            exact ⟨by first | rfl | (simp; done) | (simp [*]; done) | (simp [xbne_nil, xbeq_nil]; done), by repeat (first | exact Drawn0.refl _ | apply Drawn0.step)⟩
          · rw [if_neg c9] at H
            exact absurd H (by simp)
        · rw [if_neg c8] at H
          have c8b0 : ((bt a0 0) == 45) = false := beq_eq_false_iff_ne.mpr c8
          have c8b1 : ((bt a0 0) != 45) = true := bne_iff_ne.mpr c8
          obtain rfl := Option.some.inj H
          have p4 : 0 ≤ (0 : Int) := (by omega)
          have q4 : 0 < a0.size := (by have : (0 : Int) < (a0.size : Int) := of_decide_eq_true (by first | (with_reducible assumption) | assumption); omega)
          have hx4 : ∀ h : 0 < a0.size, ((a0[0]'h).toNat : Int) = bt a0 0 := bt_at a0 0
          clear p4
          have qi4 : (0 < (a0.size : Int)) = True := eq_true (of_decide_eq_true (by first | (with_reducible assumption) | assumption))
          replace q4 := eq_true q4
          have p7 : 0 ≤ (0 : Int) := (by omega)
          have q7 : 0 < a0.size := (by have : (0 : Int) < (a0.size : Int) := of_decide_eq_true (by first | (with_reducible assumption) | assumption); omega)
          have hx7 : ∀ h : 0 < a0.size, ((a0[0]'h).toNat : Int) = bt a0 0 := bt_at a0 0
          clear p7
          have qi7 : (0 < (a0.size : Int)) = True := eq_true (of_decide_eq_true (by first | (with_reducible assumption) | assumption))
          replace q7 := eq_true q7
          go_enter Tryd.func87, Tryd.ntmps87
          go_wp2
          go_ret
          exact ⟨by first | rfl | (simp; done) | (simp [*]; done) | (simp [xbne_nil, xbeq_nil]; done), by repeat (first | exact Drawn0.refl _ | apply Drawn0.step)⟩
    · rw [if_neg c3] at H
      exact absurd H (by simp)
def grilleref03_whole.f (k : Nat) (a0 : ByteArray) : Option (Bool) := (grilleref03_bare.f a0).bind fun t153 => ((grilleref03_only.f k t153 (⟨#[48, 49, 50, 51, 52, 53, 54, 55, 56, 57]⟩ : ByteArray)).bind fun t154 => (if t154 = true then (some true) else ((grilleref03_begins.f a0 (⟨#[48, 111]⟩ : ByteArray)).bind fun t155 => (if t155 = true then (if 2 ≤ (a0.size : Int) then ((grilleref03_only.f k (a0.extract 2 a0.size) (⟨#[48, 49, 50, 51, 52, 53, 54, 55]⟩ : ByteArray)).bind fun t156 => (some t156)) else (none)) else ((grilleref03_begins.f a0 (⟨#[48, 120]⟩ : ByteArray)).bind fun t157 => (if t157 = true then (if 2 ≤ (a0.size : Int) then ((grilleref03_only.f k (a0.extract 2 a0.size) (⟨#[48, 49, 50, 51, 52, 53, 54, 55, 56, 57, 97, 98, 99, 100, 101, 102, 65, 66, 67, 68, 69, 70]⟩ : ByteArray)).bind fun t158 => (some t158)) else (none)) else (some false)))))))
set_option maxHeartbeats 8000000 in
set_option maxRecDepth 100000 in
theorem grilleref03_whole.calls (k : Nat) (a0 : ByteArray) (r : Bool) (w : World) (h : grilleref03_whole.f k a0 = some r) :
    Calls Tryd.prog 54 #[.string a0] w fun e w' => e = .returned (.bool r) ∧ Drawn0 w w' := by
  have H : ((grilleref03_bare.f a0).bind fun t153 => ((grilleref03_only.f k t153 (⟨#[48, 49, 50, 51, 52, 53, 54, 55, 56, 57]⟩ : ByteArray)).bind fun t154 => (if t154 = true then (some true) else ((grilleref03_begins.f a0 (⟨#[48, 111]⟩ : ByteArray)).bind fun t155 => (if t155 = true then (if 2 ≤ (a0.size : Int) then ((grilleref03_only.f k (a0.extract 2 a0.size) (⟨#[48, 49, 50, 51, 52, 53, 54, 55]⟩ : ByteArray)).bind fun t156 => (some t156)) else (none)) else ((grilleref03_begins.f a0 (⟨#[48, 120]⟩ : ByteArray)).bind fun t157 => (if t157 = true then (if 2 ≤ (a0.size : Int) then ((grilleref03_only.f k (a0.extract 2 a0.size) (⟨#[48, 49, 50, 51, 52, 53, 54, 55, 56, 57, 97, 98, 99, 100, 101, 102, 65, 66, 67, 68, 69, 70]⟩ : ByteArray)).bind fun t158 => (some t158)) else (none)) else (some false)))))))) = some r := h
  clear h
  replace H := Option.bind_eq_some_iff.mp H
  obtain ⟨t153, A20, H⟩ := H
  replace H : ((grilleref03_only.f k t153 (⟨#[48, 49, 50, 51, 52, 53, 54, 55, 56, 57]⟩ : ByteArray)).bind fun t154 => (if t154 = true then (some true) else ((grilleref03_begins.f a0 (⟨#[48, 111]⟩ : ByteArray)).bind fun t155 => (if t155 = true then (if 2 ≤ (a0.size : Int) then ((grilleref03_only.f k (a0.extract 2 a0.size) (⟨#[48, 49, 50, 51, 52, 53, 54, 55]⟩ : ByteArray)).bind fun t156 => (some t156)) else (none)) else ((grilleref03_begins.f a0 (⟨#[48, 120]⟩ : ByteArray)).bind fun t157 => (if t157 = true then (if 2 ≤ (a0.size : Int) then ((grilleref03_only.f k (a0.extract 2 a0.size) (⟨#[48, 49, 50, 51, 52, 53, 54, 55, 56, 57, 97, 98, 99, 100, 101, 102, 65, 66, 67, 68, 69, 70]⟩ : ByteArray)).bind fun t158 => (some t158)) else (none)) else (some false))))))) = some r := H
  have A2 := Aside0.mk A20
  clear A20
  replace H := Option.bind_eq_some_iff.mp H
  obtain ⟨t154, A30, H⟩ := H
  replace H : (if t154 = true then (some true) else ((grilleref03_begins.f a0 (⟨#[48, 111]⟩ : ByteArray)).bind fun t155 => (if t155 = true then (if 2 ≤ (a0.size : Int) then ((grilleref03_only.f k (a0.extract 2 a0.size) (⟨#[48, 49, 50, 51, 52, 53, 54, 55]⟩ : ByteArray)).bind fun t156 => (some t156)) else (none)) else ((grilleref03_begins.f a0 (⟨#[48, 120]⟩ : ByteArray)).bind fun t157 => (if t157 = true then (if 2 ≤ (a0.size : Int) then ((grilleref03_only.f k (a0.extract 2 a0.size) (⟨#[48, 49, 50, 51, 52, 53, 54, 55, 56, 57, 97, 98, 99, 100, 101, 102, 65, 66, 67, 68, 69, 70]⟩ : ByteArray)).bind fun t158 => (some t158)) else (none)) else (some false)))))) = some r := H
  have A3 := Aside0.mk A30
  clear A30
  by_cases c4 : t154 = true
  · subst c4
    have H1 : (some true) = some r := by rw [if_pos rfl] at H; exact H
    clear H
    have H := H1
    clear H1
    obtain rfl := Option.some.inj H
    go_enter Tryd.func54, Tryd.ntmps54
    go_wp2_with (first | ((with_reducible refine gate_callee (f := 87) rfl ?_); refine goesL_ (some 4) rfl rfl Tryd.func87 (by kernel_rfl) rfl #[.string a0] rfl (by (try simp only [List.map_toArray, List.map_cons, List.map_nil]); first | done | rfl | (simp only [List.length_drop, List.length_take]; rfl)) ?_; (with_reducible refine (grilleref03_bare.calls a0 t153 _ A2.out).mono ?_); rintro e w' ⟨rfl, ⟨nd, rfl⟩⟩; refine ⟨_, rfl, ?_⟩) | ((with_reducible refine gate_callee (f := 86) rfl ?_); refine goesL_ (some 5) rfl rfl Tryd.func86 (by kernel_rfl) rfl #[.string t153, .string (⟨#[48, 49, 50, 51, 52, 53, 54, 55, 56, 57]⟩ : ByteArray)] rfl (by (try simp only [List.map_toArray, List.map_cons, List.map_nil]); first | done | rfl | (simp only [List.length_drop, List.length_take]; rfl)) ?_; (with_reducible refine (grilleref03_only.calls k t153 (⟨#[48, 49, 50, 51, 52, 53, 54, 55, 56, 57]⟩ : ByteArray) true _ A3.out).mono ?_); rintro e w' ⟨rfl, ⟨nd, rfl⟩⟩; refine ⟨_, rfl, ?_⟩))
    go_ret
    exact ⟨by first | rfl | (simp; done) | (simp [*]; done) | (simp [xbne_nil, xbeq_nil]; done), by repeat (first | exact Drawn0.refl _ | apply Drawn0.step)⟩
  · replace c4 := Bool.eq_false_iff.mpr c4
    subst c4
    have H1 : ((grilleref03_begins.f a0 (⟨#[48, 111]⟩ : ByteArray)).bind fun t155 => (if t155 = true then (if 2 ≤ (a0.size : Int) then ((grilleref03_only.f k (a0.extract 2 a0.size) (⟨#[48, 49, 50, 51, 52, 53, 54, 55]⟩ : ByteArray)).bind fun t156 => (some t156)) else (none)) else ((grilleref03_begins.f a0 (⟨#[48, 120]⟩ : ByteArray)).bind fun t157 => (if t157 = true then (if 2 ≤ (a0.size : Int) then ((grilleref03_only.f k (a0.extract 2 a0.size) (⟨#[48, 49, 50, 51, 52, 53, 54, 55, 56, 57, 97, 98, 99, 100, 101, 102, 65, 66, 67, 68, 69, 70]⟩ : ByteArray)).bind fun t158 => (some t158)) else (none)) else (some false))))) = some r := by rw [if_neg (show ¬ (false = true) by decide)] at H; exact H
    clear H
    have H := H1
    clear H1
    replace H := Option.bind_eq_some_iff.mp H
    obtain ⟨t155, A50, H⟩ := H
    replace H : (if t155 = true then (if 2 ≤ (a0.size : Int) then ((grilleref03_only.f k (a0.extract 2 a0.size) (⟨#[48, 49, 50, 51, 52, 53, 54, 55]⟩ : ByteArray)).bind fun t156 => (some t156)) else (none)) else ((grilleref03_begins.f a0 (⟨#[48, 120]⟩ : ByteArray)).bind fun t157 => (if t157 = true then (if 2 ≤ (a0.size : Int) then ((grilleref03_only.f k (a0.extract 2 a0.size) (⟨#[48, 49, 50, 51, 52, 53, 54, 55, 56, 57, 97, 98, 99, 100, 101, 102, 65, 66, 67, 68, 69, 70]⟩ : ByteArray)).bind fun t158 => (some t158)) else (none)) else (some false)))) = some r := H
    have A5 := Aside0.mk A50
    clear A50
    by_cases c6 : t155 = true
    · subst c6
      have H1 : (if 2 ≤ (a0.size : Int) then ((grilleref03_only.f k (a0.extract 2 a0.size) (⟨#[48, 49, 50, 51, 52, 53, 54, 55]⟩ : ByteArray)).bind fun t156 => (some t156)) else (none)) = some r := by rw [if_pos rfl] at H; exact H
      clear H
      have H := H1
      clear H1
      by_cases c7 : 2 ≤ (a0.size : Int)
      · rw [if_pos c7] at H
        have c7b0 := eq_true c7
        have c7b1 : decide (2 ≤ (a0.size : Int)) = true := decide_eq_true c7
        clear c7
        replace H := Option.bind_eq_some_iff.mp H
        obtain ⟨t156, A80, H⟩ := H
        replace H : (some t156) = some r := H
        have A8 := Aside0.mk A80
        clear A80
        obtain rfl := Option.some.inj H
        go_enter Tryd.func54, Tryd.ntmps54
        go_wp2_with (first | ((with_reducible refine gate_callee (f := 87) rfl ?_); refine goesL_ (some 4) rfl rfl Tryd.func87 (by kernel_rfl) rfl #[.string a0] rfl (by (try simp only [List.map_toArray, List.map_cons, List.map_nil]); first | done | rfl | (simp only [List.length_drop, List.length_take]; rfl)) ?_; (with_reducible refine (grilleref03_bare.calls a0 t153 _ A2.out).mono ?_); rintro e w' ⟨rfl, ⟨nd, rfl⟩⟩; refine ⟨_, rfl, ?_⟩) | ((with_reducible refine gate_callee (f := 86) rfl ?_); refine goesL_ (some 5) rfl rfl Tryd.func86 (by kernel_rfl) rfl #[.string t153, .string (⟨#[48, 49, 50, 51, 52, 53, 54, 55, 56, 57]⟩ : ByteArray)] rfl (by (try simp only [List.map_toArray, List.map_cons, List.map_nil]); first | done | rfl | (simp only [List.length_drop, List.length_take]; rfl)) ?_; (with_reducible refine (grilleref03_only.calls k t153 (⟨#[48, 49, 50, 51, 52, 53, 54, 55, 56, 57]⟩ : ByteArray) false _ A3.out).mono ?_); rintro e w' ⟨rfl, ⟨nd, rfl⟩⟩; refine ⟨_, rfl, ?_⟩) | ((with_reducible refine gate_callee (f := 85) rfl ?_); refine goesL_ (some 7) rfl rfl Tryd.func85 (by kernel_rfl) rfl #[.string a0, .string (⟨#[48, 111]⟩ : ByteArray)] rfl (by (try simp only [List.map_toArray, List.map_cons, List.map_nil]); first | done | rfl | (simp only [List.length_drop, List.length_take]; rfl)) ?_; (with_reducible refine (grilleref03_begins.calls a0 (⟨#[48, 111]⟩ : ByteArray) true _ A5.out).mono ?_); rintro e w' ⟨rfl, ⟨nd, rfl⟩⟩; refine ⟨_, rfl, ?_⟩) | ((with_reducible refine gate_callee (f := 86) rfl ?_); refine goesL_ (some 10) rfl rfl Tryd.func86 (by kernel_rfl) rfl #[.string (a0.extract 2 a0.size), .string (⟨#[48, 49, 50, 51, 52, 53, 54, 55]⟩ : ByteArray)] rfl (by (try simp only [List.map_toArray, List.map_cons, List.map_nil]); first | done | rfl | (simp only [List.length_drop, List.length_take]; rfl)) ?_; (with_reducible refine (grilleref03_only.calls k (a0.extract 2 a0.size) (⟨#[48, 49, 50, 51, 52, 53, 54, 55]⟩ : ByteArray) t156 _ A8.out).mono ?_); rintro e w' ⟨rfl, ⟨nd, rfl⟩⟩; refine ⟨_, rfl, ?_⟩))
        go_ret
        exact ⟨by first | rfl | (simp; done) | (simp [*]; done) | (simp [xbne_nil, xbeq_nil]; done), by repeat (first | exact Drawn0.refl _ | apply Drawn0.step)⟩
      · rw [if_neg c7] at H
        exact absurd H (by simp)
    · replace c6 := Bool.eq_false_iff.mpr c6
      subst c6
      have H1 : ((grilleref03_begins.f a0 (⟨#[48, 120]⟩ : ByteArray)).bind fun t157 => (if t157 = true then (if 2 ≤ (a0.size : Int) then ((grilleref03_only.f k (a0.extract 2 a0.size) (⟨#[48, 49, 50, 51, 52, 53, 54, 55, 56, 57, 97, 98, 99, 100, 101, 102, 65, 66, 67, 68, 69, 70]⟩ : ByteArray)).bind fun t158 => (some t158)) else (none)) else (some false))) = some r := by rw [if_neg (show ¬ (false = true) by decide)] at H; exact H
      clear H
      have H := H1
      clear H1
      replace H := Option.bind_eq_some_iff.mp H
      obtain ⟨t157, A90, H⟩ := H
      replace H : (if t157 = true then (if 2 ≤ (a0.size : Int) then ((grilleref03_only.f k (a0.extract 2 a0.size) (⟨#[48, 49, 50, 51, 52, 53, 54, 55, 56, 57, 97, 98, 99, 100, 101, 102, 65, 66, 67, 68, 69, 70]⟩ : ByteArray)).bind fun t158 => (some t158)) else (none)) else (some false)) = some r := H
      have A9 := Aside0.mk A90
      clear A90
      by_cases c10 : t157 = true
      · subst c10
        have H1 : (if 2 ≤ (a0.size : Int) then ((grilleref03_only.f k (a0.extract 2 a0.size) (⟨#[48, 49, 50, 51, 52, 53, 54, 55, 56, 57, 97, 98, 99, 100, 101, 102, 65, 66, 67, 68, 69, 70]⟩ : ByteArray)).bind fun t158 => (some t158)) else (none)) = some r := by rw [if_pos rfl] at H; exact H
        clear H
        have H := H1
        clear H1
        by_cases c11 : 2 ≤ (a0.size : Int)
        · rw [if_pos c11] at H
          have c11b0 := eq_true c11
          have c11b1 : decide (2 ≤ (a0.size : Int)) = true := decide_eq_true c11
          clear c11
          replace H := Option.bind_eq_some_iff.mp H
          obtain ⟨t158, A120, H⟩ := H
          replace H : (some t158) = some r := H
          have A12 := Aside0.mk A120
          clear A120
          obtain rfl := Option.some.inj H
          go_enter Tryd.func54, Tryd.ntmps54
          go_wp2_with (first | ((with_reducible refine gate_callee (f := 87) rfl ?_); refine goesL_ (some 4) rfl rfl Tryd.func87 (by kernel_rfl) rfl #[.string a0] rfl (by (try simp only [List.map_toArray, List.map_cons, List.map_nil]); first | done | rfl | (simp only [List.length_drop, List.length_take]; rfl)) ?_; (with_reducible refine (grilleref03_bare.calls a0 t153 _ A2.out).mono ?_); rintro e w' ⟨rfl, ⟨nd, rfl⟩⟩; refine ⟨_, rfl, ?_⟩) | ((with_reducible refine gate_callee (f := 86) rfl ?_); refine goesL_ (some 5) rfl rfl Tryd.func86 (by kernel_rfl) rfl #[.string t153, .string (⟨#[48, 49, 50, 51, 52, 53, 54, 55, 56, 57]⟩ : ByteArray)] rfl (by (try simp only [List.map_toArray, List.map_cons, List.map_nil]); first | done | rfl | (simp only [List.length_drop, List.length_take]; rfl)) ?_; (with_reducible refine (grilleref03_only.calls k t153 (⟨#[48, 49, 50, 51, 52, 53, 54, 55, 56, 57]⟩ : ByteArray) false _ A3.out).mono ?_); rintro e w' ⟨rfl, ⟨nd, rfl⟩⟩; refine ⟨_, rfl, ?_⟩) | ((with_reducible refine gate_callee (f := 85) rfl ?_); refine goesL_ (some 7) rfl rfl Tryd.func85 (by kernel_rfl) rfl #[.string a0, .string (⟨#[48, 111]⟩ : ByteArray)] rfl (by (try simp only [List.map_toArray, List.map_cons, List.map_nil]); first | done | rfl | (simp only [List.length_drop, List.length_take]; rfl)) ?_; (with_reducible refine (grilleref03_begins.calls a0 (⟨#[48, 111]⟩ : ByteArray) false _ A5.out).mono ?_); rintro e w' ⟨rfl, ⟨nd, rfl⟩⟩; refine ⟨_, rfl, ?_⟩) | ((with_reducible refine gate_callee (f := 85) rfl ?_); refine goesL_ (some 12) rfl rfl Tryd.func85 (by kernel_rfl) rfl #[.string a0, .string (⟨#[48, 120]⟩ : ByteArray)] rfl (by (try simp only [List.map_toArray, List.map_cons, List.map_nil]); first | done | rfl | (simp only [List.length_drop, List.length_take]; rfl)) ?_; (with_reducible refine (grilleref03_begins.calls a0 (⟨#[48, 120]⟩ : ByteArray) true _ A9.out).mono ?_); rintro e w' ⟨rfl, ⟨nd, rfl⟩⟩; refine ⟨_, rfl, ?_⟩) | (go_at_call 86; (with_reducible refine (grilleref03_only.calls k (a0.extract 2 a0.size) (⟨#[48, 49, 50, 51, 52, 53, 54, 55, 56, 57, 97, 98, 99, 100, 101, 102, 65, 66, 67, 68, 69, 70]⟩ : ByteArray) t158 _ A12.out).mono ?_); rintro e w' ⟨rfl, ⟨nd, rfl⟩⟩))
          go_ret
          exact ⟨by first | rfl | (simp; done) | (simp [*]; done) | (simp [xbne_nil, xbeq_nil]; done), by repeat (first | exact Drawn0.refl _ | apply Drawn0.step)⟩
        · rw [if_neg c11] at H
          exact absurd H (by simp)
      · replace c10 := Bool.eq_false_iff.mpr c10
        subst c10
        have H1 : (some false) = some r := by rw [if_neg (show ¬ (false = true) by decide)] at H; exact H
        clear H
        have H := H1
        clear H1
        obtain rfl := Option.some.inj H
        go_enter Tryd.func54, Tryd.ntmps54
        go_wp2_with (first | ((with_reducible refine gate_callee (f := 87) rfl ?_); refine goesL_ (some 4) rfl rfl Tryd.func87 (by kernel_rfl) rfl #[.string a0] rfl (by (try simp only [List.map_toArray, List.map_cons, List.map_nil]); first | done | rfl | (simp only [List.length_drop, List.length_take]; rfl)) ?_; (with_reducible refine (grilleref03_bare.calls a0 t153 _ A2.out).mono ?_); rintro e w' ⟨rfl, ⟨nd, rfl⟩⟩; refine ⟨_, rfl, ?_⟩) | ((with_reducible refine gate_callee (f := 86) rfl ?_); refine goesL_ (some 5) rfl rfl Tryd.func86 (by kernel_rfl) rfl #[.string t153, .string (⟨#[48, 49, 50, 51, 52, 53, 54, 55, 56, 57]⟩ : ByteArray)] rfl (by (try simp only [List.map_toArray, List.map_cons, List.map_nil]); first | done | rfl | (simp only [List.length_drop, List.length_take]; rfl)) ?_; (with_reducible refine (grilleref03_only.calls k t153 (⟨#[48, 49, 50, 51, 52, 53, 54, 55, 56, 57]⟩ : ByteArray) false _ A3.out).mono ?_); rintro e w' ⟨rfl, ⟨nd, rfl⟩⟩; refine ⟨_, rfl, ?_⟩) | ((with_reducible refine gate_callee (f := 85) rfl ?_); refine goesL_ (some 7) rfl rfl Tryd.func85 (by kernel_rfl) rfl #[.string a0, .string (⟨#[48, 111]⟩ : ByteArray)] rfl (by (try simp only [List.map_toArray, List.map_cons, List.map_nil]); first | done | rfl | (simp only [List.length_drop, List.length_take]; rfl)) ?_; (with_reducible refine (grilleref03_begins.calls a0 (⟨#[48, 111]⟩ : ByteArray) false _ A5.out).mono ?_); rintro e w' ⟨rfl, ⟨nd, rfl⟩⟩; refine ⟨_, rfl, ?_⟩) | ((with_reducible refine gate_callee (f := 85) rfl ?_); refine goesL_ (some 12) rfl rfl Tryd.func85 (by kernel_rfl) rfl #[.string a0, .string (⟨#[48, 120]⟩ : ByteArray)] rfl (by (try simp only [List.map_toArray, List.map_cons, List.map_nil]); first | done | rfl | (simp only [List.length_drop, List.length_take]; rfl)) ?_; (with_reducible refine (grilleref03_begins.calls a0 (⟨#[48, 120]⟩ : ByteArray) false _ A9.out).mono ?_); rintro e w' ⟨rfl, ⟨nd, rfl⟩⟩; refine ⟨_, rfl, ?_⟩))
        go_ret
        exact ⟨by first | rfl | (simp; done) | (simp [*]; done) | (simp [xbne_nil, xbeq_nil]; done), by repeat (first | exact Drawn0.refl _ | apply Drawn0.step)⟩
end Go.Proofs.YtgnmjaacnmkgnaaDoor.T
end
section
namespace Go.Proofs.YtgnmjaacnmkgnaaDoor.T
open Go.RowKit Go.Proofs.YtgnmjaacnmkgnaaDoorW.PrintWords Go.Proofs.YtgnmjaacnmkgnaaDoorW.PrintLast Go.Proofs.YtgnmjaacnmkgnaaDoorW.PrintMore
attribute [local go_sem] max2_int min2_int max_two min_two
set_option linter.unusedVariables false
set_option linter.unusedSimpArgs false
def grilleref03_find.l0 : Nat → ByteArray → Int → Int → Int → Option (Int)
  | 0, _, _, _, _ => none
  | k + 1, x0, x1, x2, x7 => if x7 < (x0.size : Int) then (if 0 ≤ x7 then (if (bt x0 x7) = x1 then (some x7) else (if (bt x0 x7) = x2 then (some x7) else (grilleref03_find.l0 k x0 x1 x2 (wrap64 (x7 + 1))))) else (none)) else (some (x0.size : Int))
def grilleref03_find.f (k : Nat) (a0 : ByteArray) (a1 : Int) (a2 : Int) : Option (Int) := grilleref03_find.l0 k a0 a1 a2 0
set_option maxHeartbeats 8000000 in
set_option maxRecDepth 100000 in
theorem grilleref03_find.calls (k : Nat) (a0 : ByteArray) (a1 : Int) (a2 : Int) (r : Int) (w : World) (h : grilleref03_find.f k a0 a1 a2 = some r) :
    Calls Tryd.prog 88 #[.string a0, .int .u8 a1, .int .u8 a2] w fun e w' => e = .returned (.int .i64 r) ∧ Drawn0 w w' := by
  have H : (grilleref03_find.l0 k a0 a1 a2 0) = some r := h
  clear h
  have H' := Aside0.mk H
  clear H
  go_enter Tryd.func88, Tryd.ntmps88
  go_wp2
  go_loopg [7] k (fun kq v7 w' => ∃ (x7_1 : Int), v7 = .int .i64 x7_1 ∧ Aside0 (grilleref03_find.l0 kq a0 a1 a2 x7_1 = some r) ∧ Aside0 (kq ≤ k) ∧ Drawn0 w w')
  case atStart => exact ⟨(0), (by first | rfl | (simp; done) | (simp [*]; done) | (simp [xbne_nil, xbeq_nil]; done)), H', ⟨Nat.le_refl _⟩, by repeat (first | exact Drawn0.refl _ | apply Drawn0.step)⟩
  case round =>
    clear H'
    try clear p2
    obtain ⟨x7_1, rfl, HA, HK1, ⟨m1, rfl⟩⟩ := hrel
    cases gk with
    | zero => exact absurd HA.out (by simp [grilleref03_find.l0])
    | succ k1 =>
      have H := HA.out
      clear HA
      simp only [grilleref03_find.l0] at H
      by_cases c4 : x7_1 < (a0.size : Int)
      · rw [if_pos c4] at H
        have c4b0 : decide (x7_1 < (a0.size : Int)) = true := decide_eq_true c4
        clear c4
        by_cases c5 : 0 ≤ x7_1
        · rw [if_pos c5] at H
          have c5b0 : decide (0 ≤ x7_1) = true := decide_eq_true c5
          clear c5
          by_cases c7 : (bt a0 x7_1) = a1
          · rw [if_pos c7] at H
            have c7b0 : ((bt a0 x7_1) == a1) = true := beq_iff_eq.mpr c7
            have c7b1 : ((bt a0 x7_1) != a1) = false := bne_eq_false_iff_eq.mpr c7
            clear c7
            obtain rfl := Option.some.inj H
            have p6 : 0 ≤ (x7_1 : Int) := of_decide_eq_true (by first | (with_reducible assumption) | assumption)
            have q6 : x7_1 < (a0.size : Int) := of_decide_eq_true (by first | (with_reducible assumption) | assumption)
            have hx6 := bt_at a0 x7_1
            replace p6 := eq_true p6
            replace q6 := eq_true q6
            go_wp2
            go_ret
            exact ⟨by first | rfl | (simp; done) | (simp [*]; done) | (simp [xbne_nil, xbeq_nil]; done), by repeat (first | exact Drawn0.refl _ | apply Drawn0.step)⟩
          · rw [if_neg c7] at H
            have c7b0 : ((bt a0 x7_1) == a1) = false := beq_eq_false_iff_ne.mpr c7
            have c7b1 : ((bt a0 x7_1) != a1) = true := bne_iff_ne.mpr c7
            by_cases c9 : (bt a0 x7_1) = a2
            · rw [if_pos c9] at H
              have c9b0 : ((bt a0 x7_1) == a2) = true := beq_iff_eq.mpr c9
              have c9b1 : ((bt a0 x7_1) != a2) = false := bne_eq_false_iff_eq.mpr c9
              clear c9
              obtain rfl := Option.some.inj H
              have p6 : 0 ≤ (x7_1 : Int) := of_decide_eq_true (by first | (with_reducible assumption) | assumption)
              have q6 : x7_1 < (a0.size : Int) := of_decide_eq_true (by first | (with_reducible assumption) | assumption)
              have hx6 := bt_at a0 x7_1
              replace p6 := eq_true p6
              replace q6 := eq_true q6
              have p8 : 0 ≤ (x7_1 : Int) := of_decide_eq_true (by first | (with_reducible assumption) | assumption)
              have q8 : x7_1 < (a0.size : Int) := of_decide_eq_true (by first | (with_reducible assumption) | assumption)
              have hx8 := bt_at a0 x7_1
              replace p8 := eq_true p8
              replace q8 := eq_true q8
              go_wp2
              go_ret
              exact ⟨by first | rfl | (simp; done) | (simp [*]; done) | (simp [xbne_nil, xbeq_nil]; done), by repeat (first | exact Drawn0.refl _ | apply Drawn0.step)⟩
            · rw [if_neg c9] at H
              have c9b0 : ((bt a0 x7_1) == a2) = false := beq_eq_false_iff_ne.mpr c9
              have c9b1 : ((bt a0 x7_1) != a2) = true := bne_iff_ne.mpr c9
              have H' := Aside0.mk H
              clear H
              have p6 : 0 ≤ (x7_1 : Int) := of_decide_eq_true (by first | (with_reducible assumption) | assumption)
              have q6 : x7_1 < (a0.size : Int) := of_decide_eq_true (by first | (with_reducible assumption) | assumption)
              have hx6 := bt_at a0 x7_1
              replace p6 := eq_true p6
              replace q6 := eq_true q6
              have p8 : 0 ≤ (x7_1 : Int) := of_decide_eq_true (by first | (with_reducible assumption) | assumption)
              have q8 : x7_1 < (a0.size : Int) := of_decide_eq_true (by first | (with_reducible assumption) | assumption)
              have hx8 := bt_at a0 x7_1
              replace p8 := eq_true p8
              replace q8 := eq_true q8
              go_wp2
              go_roundg k1
              case measure => have := HK1.out; omega
              case rel => exact ⟨(wrap64 (x7_1 + 1)), (by first | rfl | (simp; done) | (simp [*]; done) | (simp [xbne_nil, xbeq_nil]; done)), H', ⟨by have := HK1.out; omega⟩, by repeat (first | exact Drawn0.refl _ | apply Drawn0.step)⟩
        · rw [if_neg c5] at H
          exact absurd H (by simp)
      · rw [if_neg c4] at H
        have c4b0 : decide (x7_1 < (a0.size : Int)) = false := decide_eq_false c4
        clear c4
        obtain rfl := Option.some.inj H
        go_wp2
        go_ret
        exact ⟨by first | rfl | (simp; done) | (simp [*]; done) | (simp [xbne_nil, xbeq_nil]; done), by repeat (first | exact Drawn0.refl _ | apply Drawn0.step)⟩
def grilleref03_fraction.f (k : Nat) (a0 : ByteArray) : Option (Bool) := (grilleref03_find.f k a0 46 46).bind fun t159 => (if t159 = (a0.size : Int) then ((grilleref03_only.f k a0 (⟨#[48, 49, 50, 51, 52, 53, 54, 55, 56, 57]⟩ : ByteArray)).bind fun t160 => (some t160)) else (if 0 ≤ (wrap64 (t159 + 1)) then (if (wrap64 (t159 + 1)) ≤ (a0.size : Int) then (if t159 = 0 then ((grilleref03_only.f k (a0.extract ((wrap64 (t159 + 1)) : Int).toNat a0.size) (⟨#[48, 49, 50, 51, 52, 53, 54, 55, 56, 57]⟩ : ByteArray)).bind fun t161 => (some t161)) else (if 0 ≤ t159 then (if t159 ≤ (a0.size : Int) then ((grilleref03_only.f k (a0.extract 0 (t159 : Int).toNat) (⟨#[48, 49, 50, 51, 52, 53, 54, 55, 56, 57]⟩ : ByteArray)).bind fun t162 => (if t162 = true then (if (a0.extract ((wrap64 (t159 + 1)) : Int).toNat a0.size).toList = ([] : List UInt8) then (some true) else ((grilleref03_only.f k (a0.extract ((wrap64 (t159 + 1)) : Int).toNat a0.size) (⟨#[48, 49, 50, 51, 52, 53, 54, 55, 56, 57]⟩ : ByteArray)).bind fun t163 => (some t163))) else (some false))) else (none)) else (none))) else (none)) else (none)))
set_option maxHeartbeats 8000000 in
set_option maxRecDepth 100000 in
theorem grilleref03_fraction.calls (k : Nat) (a0 : ByteArray) (r : Bool) (w : World) (h : grilleref03_fraction.f k a0 = some r) :
    Calls Tryd.prog 89 #[.string a0] w fun e w' => e = .returned (.bool r) ∧ Drawn0 w w' := by
  have H : ((grilleref03_find.f k a0 46 46).bind fun t159 => (if t159 = (a0.size : Int) then ((grilleref03_only.f k a0 (⟨#[48, 49, 50, 51, 52, 53, 54, 55, 56, 57]⟩ : ByteArray)).bind fun t160 => (some t160)) else (if 0 ≤ (wrap64 (t159 + 1)) then (if (wrap64 (t159 + 1)) ≤ (a0.size : Int) then (if t159 = 0 then ((grilleref03_only.f k (a0.extract ((wrap64 (t159 + 1)) : Int).toNat a0.size) (⟨#[48, 49, 50, 51, 52, 53, 54, 55, 56, 57]⟩ : ByteArray)).bind fun t161 => (some t161)) else (if 0 ≤ t159 then (if t159 ≤ (a0.size : Int) then ((grilleref03_only.f k (a0.extract 0 (t159 : Int).toNat) (⟨#[48, 49, 50, 51, 52, 53, 54, 55, 56, 57]⟩ : ByteArray)).bind fun t162 => (if t162 = true then (if (a0.extract ((wrap64 (t159 + 1)) : Int).toNat a0.size).toList = ([] : List UInt8) then (some true) else ((grilleref03_only.f k (a0.extract ((wrap64 (t159 + 1)) : Int).toNat a0.size) (⟨#[48, 49, 50, 51, 52, 53, 54, 55, 56, 57]⟩ : ByteArray)).bind fun t163 => (some t163))) else (some false))) else (none)) else (none))) else (none)) else (none)))) = some r := h
  clear h
  replace H := Option.bind_eq_some_iff.mp H
  obtain ⟨t159, A20, H⟩ := H
  replace H : (if t159 = (a0.size : Int) then ((grilleref03_only.f k a0 (⟨#[48, 49, 50, 51, 52, 53, 54, 55, 56, 57]⟩ : ByteArray)).bind fun t160 => (some t160)) else (if 0 ≤ (wrap64 (t159 + 1)) then (if (wrap64 (t159 + 1)) ≤ (a0.size : Int) then (if t159 = 0 then ((grilleref03_only.f k (a0.extract ((wrap64 (t159 + 1)) : Int).toNat a0.size) (⟨#[48, 49, 50, 51, 52, 53, 54, 55, 56, 57]⟩ : ByteArray)).bind fun t161 => (some t161)) else (if 0 ≤ t159 then (if t159 ≤ (a0.size : Int) then ((grilleref03_only.f k (a0.extract 0 (t159 : Int).toNat) (⟨#[48, 49, 50, 51, 52, 53, 54, 55, 56, 57]⟩ : ByteArray)).bind fun t162 => (if t162 = true then (if (a0.extract ((wrap64 (t159 + 1)) : Int).toNat a0.size).toList = ([] : List UInt8) then (some true) else ((grilleref03_only.f k (a0.extract ((wrap64 (t159 + 1)) : Int).toNat a0.size) (⟨#[48, 49, 50, 51, 52, 53, 54, 55, 56, 57]⟩ : ByteArray)).bind fun t163 => (some t163))) else (some false))) else (none)) else (none))) else (none)) else (none))) = some r := H
  have A2 := Aside0.mk A20
  clear A20
  by_cases c3 : t159 = (a0.size : Int)
  · rw [if_pos c3] at H
    have c3b0 : (t159 == (a0.size : Int)) = true := beq_iff_eq.mpr c3
    have c3b1 : (t159 != (a0.size : Int)) = false := bne_eq_false_iff_eq.mpr c3
    clear c3
    replace H := Option.bind_eq_some_iff.mp H
    obtain ⟨t160, A40, H⟩ := H
    replace H : (some t160) = some r := H
    have A4 := Aside0.mk A40
    clear A40
    obtain rfl := Option.some.inj H
    go_enter Tryd.func89, Tryd.ntmps89
    go_wp2_with (first | ((with_reducible refine gate_callee (f := 88) rfl ?_); refine goesL_ (some 6) rfl rfl Tryd.func88 (by kernel_rfl) rfl #[.string a0, .int .u8 46, .int .u8 46] rfl (by (try simp only [List.map_toArray, List.map_cons, List.map_nil]); first | done | rfl | (simp only [List.length_drop, List.length_take]; rfl)) ?_; (with_reducible refine (grilleref03_find.calls k a0 46 46 t159 _ A2.out).mono ?_); rintro e w' ⟨rfl, ⟨nd, rfl⟩⟩; refine ⟨_, rfl, ?_⟩) | ((with_reducible refine gate_callee (f := 86) rfl ?_); refine goesL_ (some 12) rfl rfl Tryd.func86 (by kernel_rfl) rfl #[.string a0, .string (⟨#[48, 49, 50, 51, 52, 53, 54, 55, 56, 57]⟩ : ByteArray)] rfl (by (try simp only [List.map_toArray, List.map_cons, List.map_nil]); first | done | rfl | (simp only [List.length_drop, List.length_take]; rfl)) ?_; (with_reducible refine (grilleref03_only.calls k a0 (⟨#[48, 49, 50, 51, 52, 53, 54, 55, 56, 57]⟩ : ByteArray) t160 _ A4.out).mono ?_); rintro e w' ⟨rfl, ⟨nd, rfl⟩⟩; refine ⟨_, rfl, ?_⟩))
    go_ret
    exact ⟨by first | rfl | (simp; done) | (simp [*]; done) | (simp [xbne_nil, xbeq_nil]; done), by repeat (first | exact Drawn0.refl _ | apply Drawn0.step)⟩
  · rw [if_neg c3] at H
    have c3b0 : (t159 == (a0.size : Int)) = false := beq_eq_false_iff_ne.mpr c3
    have c3b1 : (t159 != (a0.size : Int)) = true := bne_iff_ne.mpr c3
    obtain ⟨ji5, hji5⟩ : ∃ j_ : Int, (wrap64 (t159 + 1)) = j_ := ⟨_, rfl⟩
    replace H : (if 0 ≤ (ji5) then (if (ji5) ≤ (a0.size : Int) then (if t159 = 0 then ((grilleref03_only.f k (a0.extract ((ji5) : Int).toNat a0.size) (⟨#[48, 49, 50, 51, 52, 53, 54, 55, 56, 57]⟩ : ByteArray)).bind fun t161 => (some t161)) else (if 0 ≤ t159 then (if t159 ≤ (a0.size : Int) then ((grilleref03_only.f k (a0.extract 0 (t159 : Int).toNat) (⟨#[48, 49, 50, 51, 52, 53, 54, 55, 56, 57]⟩ : ByteArray)).bind fun t162 => (if t162 = true then (if (a0.extract ((ji5) : Int).toNat a0.size).toList = ([] : List UInt8) then (some true) else ((grilleref03_only.f k (a0.extract ((ji5) : Int).toNat a0.size) (⟨#[48, 49, 50, 51, 52, 53, 54, 55, 56, 57]⟩ : ByteArray)).bind fun t163 => (some t163))) else (some false))) else (none)) else (none))) else (none)) else (none)) = some r := by first | (rw [hji5] at H; exact H) | (simp only [hji5] at H ⊢; exact H)
    (try rw [hji5] at A2)
    have hji5w : (IntKind.i64.wrap (t159 + 1)) = ji5 := (i64_w _).trans hji5
    by_cases c6 : 0 ≤ (ji5)
    · rw [if_pos c6] at H
      have c6b0 := eq_true c6
      have c6b1 : decide (0 ≤ (ji5)) = true := decide_eq_true c6
      clear c6
      by_cases c7 : (ji5) ≤ (a0.size : Int)
      · rw [if_pos c7] at H
        have c7b0 := eq_true c7
        have c7b1 : decide ((ji5) ≤ (a0.size : Int)) = true := decide_eq_true c7
        clear c7
        by_cases c8 : t159 = 0
        · rw [if_pos c8] at H
          have c8b0 : (t159 == 0) = true := beq_iff_eq.mpr c8
          have c8b1 : (t159 != 0) = false := bne_eq_false_iff_eq.mpr c8
          clear c8
          replace H := Option.bind_eq_some_iff.mp H
          obtain ⟨t161, A90, H⟩ := H
          replace H : (some t161) = some r := H
          have A9 := Aside0.mk A90
          clear A90
          obtain rfl := Option.some.inj H
          go_enter Tryd.func89, Tryd.ntmps89
          go_wp2_with (first | ((with_reducible refine gate_callee (f := 88) rfl ?_); refine goesL_ (some 6) rfl rfl Tryd.func88 (by kernel_rfl) rfl #[.string a0, .int .u8 46, .int .u8 46] rfl (by (try simp only [List.map_toArray, List.map_cons, List.map_nil]); first | done | rfl | (simp only [List.length_drop, List.length_take]; rfl)) ?_; (with_reducible refine (grilleref03_find.calls k a0 46 46 t159 _ A2.out).mono ?_); rintro e w' ⟨rfl, ⟨nd, rfl⟩⟩; refine ⟨_, rfl, ?_⟩) | ((with_reducible refine gate_callee (f := 86) rfl ?_); refine goesL_ (some 20) rfl rfl Tryd.func86 (by kernel_rfl) rfl #[.string (a0.extract ((ji5) : Int).toNat a0.size), .string (⟨#[48, 49, 50, 51, 52, 53, 54, 55, 56, 57]⟩ : ByteArray)] rfl (by (try simp only [List.map_toArray, List.map_cons, List.map_nil]); first | done | (simp only [hji5]; rfl) | rfl | (simp only [List.length_drop, List.length_take]; rfl)) ?_; (with_reducible refine (grilleref03_only.calls k (a0.extract ((ji5) : Int).toNat a0.size) (⟨#[48, 49, 50, 51, 52, 53, 54, 55, 56, 57]⟩ : ByteArray) t161 _ A9.out).mono ?_); rintro e w' ⟨rfl, ⟨nd, rfl⟩⟩; refine ⟨_, rfl, ?_⟩))
          go_ret
          exact ⟨by first | rfl | (simp; done) | (simp only [← hji5] <;> (first | rfl | simp)) | (simp [*]; done), by repeat (first | exact Drawn0.refl _ | apply Drawn0.step)⟩
        · rw [if_neg c8] at H
          have c8b0 : (t159 == 0) = false := beq_eq_false_iff_ne.mpr c8
          have c8b1 : (t159 != 0) = true := bne_iff_ne.mpr c8
          by_cases c10 : 0 ≤ t159
          · rw [if_pos c10] at H
            have c10b0 := eq_true c10
            have c10b1 : decide (0 ≤ t159) = true := decide_eq_true c10
            clear c10
            by_cases c11 : t159 ≤ (a0.size : Int)
            · rw [if_pos c11] at H
              have c11b0 := eq_true c11
              have c11b1 : decide (t159 ≤ (a0.size : Int)) = true := decide_eq_true c11
              clear c11
              replace H := Option.bind_eq_some_iff.mp H
              obtain ⟨t162, A120, H⟩ := H
              replace H : (if t162 = true then (if (a0.extract ((ji5) : Int).toNat a0.size).toList = ([] : List UInt8) then (some true) else ((grilleref03_only.f k (a0.extract ((ji5) : Int).toNat a0.size) (⟨#[48, 49, 50, 51, 52, 53, 54, 55, 56, 57]⟩ : ByteArray)).bind fun t163 => (some t163))) else (some false)) = some r := H
              have A12 := Aside0.mk A120
              clear A120
              by_cases c13 : t162 = true
              · subst c13
                have H1 : (if (a0.extract ((ji5) : Int).toNat a0.size).toList = ([] : List UInt8) then (some true) else ((grilleref03_only.f k (a0.extract ((ji5) : Int).toNat a0.size) (⟨#[48, 49, 50, 51, 52, 53, 54, 55, 56, 57]⟩ : ByteArray)).bind fun t163 => (some t163))) = some r := by rw [if_pos rfl] at H; exact H
                clear H
                have H := H1
                clear H1
                by_cases c14 : (a0.extract ((ji5) : Int).toNat a0.size).toList = ([] : List UInt8)
                · rw [if_pos c14] at H
                  have c14b0 : ((a0.extract ((ji5) : Int).toNat a0.size).toList == ([] : List UInt8)) = true := beq_iff_eq.mpr c14
                  have c14b1 : ((a0.extract ((ji5) : Int).toNat a0.size).toList != ([] : List UInt8)) = false := bne_eq_false_iff_eq.mpr c14
                  clear c14
                  obtain rfl := Option.some.inj H
                  go_enter Tryd.func89, Tryd.ntmps89
                  go_wp2_with (first | ((with_reducible refine gate_callee (f := 88) rfl ?_); refine goesL_ (some 6) rfl rfl Tryd.func88 (by kernel_rfl) rfl #[.string a0, .int .u8 46, .int .u8 46] rfl (by (try simp only [List.map_toArray, List.map_cons, List.map_nil]); first | done | rfl | (simp only [List.length_drop, List.length_take]; rfl)) ?_; (with_reducible refine (grilleref03_find.calls k a0 46 46 t159 _ A2.out).mono ?_); rintro e w' ⟨rfl, ⟨nd, rfl⟩⟩; refine ⟨_, rfl, ?_⟩) | ((with_reducible refine gate_callee (f := 86) rfl ?_); refine goesL_ (some 24) rfl rfl Tryd.func86 (by kernel_rfl) rfl #[.string (a0.extract 0 (t159 : Int).toNat), .string (⟨#[48, 49, 50, 51, 52, 53, 54, 55, 56, 57]⟩ : ByteArray)] rfl (by (try simp only [List.map_toArray, List.map_cons, List.map_nil]); first | done | rfl | (simp only [List.length_drop, List.length_take]; rfl)) ?_; (with_reducible refine (grilleref03_only.calls k (a0.extract 0 (t159 : Int).toNat) (⟨#[48, 49, 50, 51, 52, 53, 54, 55, 56, 57]⟩ : ByteArray) true _ A12.out).mono ?_); rintro e w' ⟨rfl, ⟨nd, rfl⟩⟩; refine ⟨_, rfl, ?_⟩))
                  go_ret
                  exact ⟨by first | rfl | (simp; done) | (simp only [← hji5] <;> (first | rfl | simp)) | (simp [*]; done), by repeat (first | exact Drawn0.refl _ | apply Drawn0.step)⟩
                · rw [if_neg c14] at H
                  have c14b0 : ((a0.extract ((ji5) : Int).toNat a0.size).toList == ([] : List UInt8)) = false := beq_eq_false_iff_ne.mpr c14
                  have c14b1 : ((a0.extract ((ji5) : Int).toNat a0.size).toList != ([] : List UInt8)) = true := bne_iff_ne.mpr c14
                  replace H := Option.bind_eq_some_iff.mp H
                  obtain ⟨t163, A150, H⟩ := H
                  replace H : (some t163) = some r := H
                  have A15 := Aside0.mk A150
                  clear A150
                  obtain rfl := Option.some.inj H
                  go_enter Tryd.func89, Tryd.ntmps89
                  go_wp2_with (first | ((with_reducible refine gate_callee (f := 88) rfl ?_); refine goesL_ (some 6) rfl rfl Tryd.func88 (by kernel_rfl) rfl #[.string a0, .int .u8 46, .int .u8 46] rfl (by (try simp only [List.map_toArray, List.map_cons, List.map_nil]); first | done | rfl | (simp only [List.length_drop, List.length_take]; rfl)) ?_; (with_reducible refine (grilleref03_find.calls k a0 46 46 t159 _ A2.out).mono ?_); rintro e w' ⟨rfl, ⟨nd, rfl⟩⟩; refine ⟨_, rfl, ?_⟩) | ((with_reducible refine gate_callee (f := 86) rfl ?_); refine goesL_ (some 24) rfl rfl Tryd.func86 (by kernel_rfl) rfl #[.string (a0.extract 0 (t159 : Int).toNat), .string (⟨#[48, 49, 50, 51, 52, 53, 54, 55, 56, 57]⟩ : ByteArray)] rfl (by (try simp only [List.map_toArray, List.map_cons, List.map_nil]); first | done | rfl | (simp only [List.length_drop, List.length_take]; rfl)) ?_; (with_reducible refine (grilleref03_only.calls k (a0.extract 0 (t159 : Int).toNat) (⟨#[48, 49, 50, 51, 52, 53, 54, 55, 56, 57]⟩ : ByteArray) true _ A12.out).mono ?_); rintro e w' ⟨rfl, ⟨nd, rfl⟩⟩; refine ⟨_, rfl, ?_⟩) | (go_at_call 86; (with_reducible refine (grilleref03_only.calls k (a0.extract ((ji5) : Int).toNat a0.size) (⟨#[48, 49, 50, 51, 52, 53, 54, 55, 56, 57]⟩ : ByteArray) t163 _ A15.out).mono ?_); rintro e w' ⟨rfl, ⟨nd, rfl⟩⟩))
                  go_ret
                  exact ⟨by first | rfl | (simp; done) | (simp only [← hji5] <;> (first | rfl | simp)) | (simp [*]; done), by repeat (first | exact Drawn0.refl _ | apply Drawn0.step)⟩
              · replace c13 := Bool.eq_false_iff.mpr c13
                subst c13
                have H1 : (some false) = some r := by rw [if_neg (show ¬ (false = true) by decide)] at H; exact H
                clear H
                have H := H1
                clear H1
                obtain rfl := Option.some.inj H
                go_enter Tryd.func89, Tryd.ntmps89
                go_wp2_with (first | ((with_reducible refine gate_callee (f := 88) rfl ?_); refine goesL_ (some 6) rfl rfl Tryd.func88 (by kernel_rfl) rfl #[.string a0, .int .u8 46, .int .u8 46] rfl (by (try simp only [List.map_toArray, List.map_cons, List.map_nil]); first | done | rfl | (simp only [List.length_drop, List.length_take]; rfl)) ?_; (with_reducible refine (grilleref03_find.calls k a0 46 46 t159 _ A2.out).mono ?_); rintro e w' ⟨rfl, ⟨nd, rfl⟩⟩; refine ⟨_, rfl, ?_⟩) | ((with_reducible refine gate_callee (f := 86) rfl ?_); refine goesL_ (some 24) rfl rfl Tryd.func86 (by kernel_rfl) rfl #[.string (a0.extract 0 (t159 : Int).toNat), .string (⟨#[48, 49, 50, 51, 52, 53, 54, 55, 56, 57]⟩ : ByteArray)] rfl (by (try simp only [List.map_toArray, List.map_cons, List.map_nil]); first | done | rfl | (simp only [List.length_drop, List.length_take]; rfl)) ?_; (with_reducible refine (grilleref03_only.calls k (a0.extract 0 (t159 : Int).toNat) (⟨#[48, 49, 50, 51, 52, 53, 54, 55, 56, 57]⟩ : ByteArray) false _ A12.out).mono ?_); rintro e w' ⟨rfl, ⟨nd, rfl⟩⟩; refine ⟨_, rfl, ?_⟩))
                go_ret
                exact ⟨by first | rfl | (simp; done) | (simp only [← hji5] <;> (first | rfl | simp)) | (simp [*]; done), by repeat (first | exact Drawn0.refl _ | apply Drawn0.step)⟩
            · rw [if_neg c11] at H
              exact absurd H (by simp)
          · rw [if_neg c10] at H
            exact absurd H (by simp)
      · rw [if_neg c7] at H
        exact absurd H (by simp)
    · rw [if_neg c6] at H
      exact absurd H (by simp)
end Go.Proofs.YtgnmjaacnmkgnaaDoor.T
end
section
namespace Go.Proofs.YtgnmjaacnmkgnaaDoor.T
open Go.RowKit Go.Proofs.YtgnmjaacnmkgnaaDoorW.PrintWords Go.Proofs.YtgnmjaacnmkgnaaDoorW.PrintLast Go.Proofs.YtgnmjaacnmkgnaaDoorW.PrintMore
attribute [local go_sem] max2_int min2_int max_two min_two
set_option linter.unusedVariables false
set_option linter.unusedSimpArgs false
def grilleref03_float.j0 : Nat → ByteArray → Bool → Option (Bool)
  | 0, _, _ => none
  | k + 1, x0, x12 => if x12 = true then (some true) else ((grilleref03_bare.f x0).bind fun t173 => ((grilleref03_find.f k t173 101 69).bind fun t174 => (if t174 < (t173.size : Int) then (if 0 ≤ (wrap64 (t174 + 1)) then (if (wrap64 (t174 + 1)) ≤ (t173.size : Int) then ((grilleref03_bare.f (t173.extract ((wrap64 (t174 + 1)) : Int).toNat t173.size)).bind fun t175 => ((grilleref03_only.f k t175 (⟨#[48, 49, 50, 51, 52, 53, 54, 55, 56, 57]⟩ : ByteArray)).bind fun t176 => (if t176 = true then (if 0 ≤ t174 then (if t174 ≤ (t173.size : Int) then ((grilleref03_fraction.f k (t173.extract 0 (t174 : Int).toNat)).bind fun t177 => (some t177)) else (none)) else (none)) else (some false)))) else (none)) else (none)) else (if 0 ≤ t174 then (if t174 ≤ (t173.size : Int) then ((grilleref03_fraction.f k (t173.extract 0 (t174 : Int).toNat)).bind fun t178 => (some t178)) else (none)) else (none)))))
def grilleref03_float.f (k : Nat) (a0 : ByteArray) : Option (Bool) := (grilleref03_bare.f a0).bind fun t164 => ((grilleref03_one.f k t164 (([(⟨#[46, 105, 110, 102]⟩ : ByteArray), (⟨#[46, 73, 110, 102]⟩ : ByteArray), (⟨#[46, 73, 78, 70]⟩ : ByteArray)] : List ByteArray))).bind fun t168 => (if t168 = true then (grilleref03_float.j0 k a0 true) else ((grilleref03_one.f k a0 (([(⟨#[46, 110, 97, 110]⟩ : ByteArray), (⟨#[46, 78, 97, 78]⟩ : ByteArray), (⟨#[46, 78, 65, 78]⟩ : ByteArray)] : List ByteArray))).bind fun t172 => (grilleref03_float.j0 k a0 t172))))
set_option maxHeartbeats 8000000 in
set_option maxRecDepth 100000 in
theorem grilleref03_float.calls (k : Nat) (a0 : ByteArray) (r : Bool) (w : World) (h : grilleref03_float.f k a0 = some r) :
    Calls Tryd.prog 55 #[.string a0] w fun e w' => e = .returned (.bool r) ∧ Below w.heap.size w w' := by
  have HB := Aside0.mk (Below.refl w.heap.size w)
  have H : ((grilleref03_bare.f a0).bind fun t164 => ((grilleref03_one.f k t164 (([(⟨#[46, 105, 110, 102]⟩ : ByteArray), (⟨#[46, 73, 110, 102]⟩ : ByteArray), (⟨#[46, 73, 78, 70]⟩ : ByteArray)] : List ByteArray))).bind fun t168 => (if t168 = true then (grilleref03_float.j0 k a0 true) else ((grilleref03_one.f k a0 (([(⟨#[46, 110, 97, 110]⟩ : ByteArray), (⟨#[46, 78, 97, 78]⟩ : ByteArray), (⟨#[46, 78, 65, 78]⟩ : ByteArray)] : List ByteArray))).bind fun t172 => (grilleref03_float.j0 k a0 t172))))) = some r := h
  clear h
  have HC2 := Aside0.mk H
  clear H
  go_enter Tryd.func55, Tryd.ntmps55
  go_upto_region 1 with (fail)
  go_cut [12] (fun v12 wc => ∃ (kq : Nat) (x12_1 : Bool), v12 = .bool x12_1 ∧ Aside0 (grilleref03_float.j0 kq a0 x12_1 = some r) ∧ Aside0 (kq ≤ k) ∧ Aside0 (Below w.heap.size w wc))
  case first =>
    have H := HC2.out
    clear HC2
    replace H := Option.bind_eq_some_iff.mp H
    obtain ⟨t164, A30, H⟩ := H
    replace H : ((grilleref03_one.f k t164 (([(⟨#[46, 105, 110, 102]⟩ : ByteArray), (⟨#[46, 73, 110, 102]⟩ : ByteArray), (⟨#[46, 73, 78, 70]⟩ : ByteArray)] : List ByteArray))).bind fun t168 => (if t168 = true then (grilleref03_float.j0 k a0 true) else ((grilleref03_one.f k a0 (([(⟨#[46, 110, 97, 110]⟩ : ByteArray), (⟨#[46, 78, 97, 78]⟩ : ByteArray), (⟨#[46, 78, 65, 78]⟩ : ByteArray)] : List ByteArray))).bind fun t172 => (grilleref03_float.j0 k a0 t172)))) = some r := H
    have A3 := Aside0.mk A30
    clear A30
    obtain ⟨y165, hy165⟩ : ∃ y_ : List ByteArray, y_ = (([(⟨#[46, 105, 110, 102]⟩ : ByteArray), (⟨#[46, 73, 110, 102]⟩ : ByteArray), (⟨#[46, 73, 78, 70]⟩ : ByteArray)] : List ByteArray)) := ⟨_, rfl⟩
    replace H : ((grilleref03_one.f k t164 y165).bind fun t168 => (if t168 = true then (grilleref03_float.j0 k a0 true) else ((grilleref03_one.f k a0 (([(⟨#[46, 110, 97, 110]⟩ : ByteArray), (⟨#[46, 78, 97, 78]⟩ : ByteArray), (⟨#[46, 78, 65, 78]⟩ : ByteArray)] : List ByteArray))).bind fun t172 => (grilleref03_float.j0 k a0 t172)))) = some r := by first | (rw [hy165]; with_reducible exact H) | (have H2_ := (Option.bind_some _ _).symm.trans H; rw [hy165]; with_reducible exact H2_) | (have H2_ := (Option.bind_some _ _).symm.trans H; with_reducible exact H2_) | with_reducible exact H | (rw [hy165]; exact H) | exact H
    have Ny165 := Aside0.mk hy165
    clear hy165
    replace H := Option.bind_eq_some_iff.mp H
    obtain ⟨t168, A40, H⟩ := H
    replace H : (if t168 = true then (grilleref03_float.j0 k a0 true) else ((grilleref03_one.f k a0 (([(⟨#[46, 110, 97, 110]⟩ : ByteArray), (⟨#[46, 78, 97, 78]⟩ : ByteArray), (⟨#[46, 78, 65, 78]⟩ : ByteArray)] : List ByteArray))).bind fun t172 => (grilleref03_float.j0 k a0 t172))) = some r := H
    have A4 := Aside0.mk A40
    clear A40
    by_cases c5 : t168 = true
    · subst c5
      have H1 : (grilleref03_float.j0 k a0 true) = some r := by rw [if_pos rfl] at H; exact H
      clear H
      have H := H1
      clear H1
      have H' := Aside0.mk H
      clear H
      go_wp2_with (first | ((with_reducible refine gate_callee (f := 87) rfl ?_); refine goesL_ (some 5) rfl rfl Tryd.func87 (by kernel_rfl) rfl #[.string a0] rfl (by (try simp only [List.map_toArray, List.map_cons, List.map_nil]); first | done | rfl | (simp only [List.length_drop, List.length_take]; rfl)) ?_; (with_reducible refine (grilleref03_bare.calls a0 t164 _ A3.out).mono ?_); rintro e w' ⟨rfl, ⟨nd, rfl⟩⟩; refine ⟨_, rfl, ?_⟩) | ((with_reducible refine gate_dst (N := 6) rfl ?_); (try (refine gate_guard (by rfl) ?_; dsimp only)); refine Kd.R_lit Kd.string _ 9 ?hg (N := 6) ?hd (xs := ([(⟨#[46, 105, 110, 102]⟩ : ByteArray), (⟨#[46, 73, 110, 102]⟩ : ByteArray), (⟨#[46, 73, 78, 70]⟩ : ByteArray)] : List ByteArray)) (inner := [.string (⟨#[46, 105, 110, 102]⟩ : ByteArray), .string (⟨#[46, 73, 110, 102]⟩ : ByteArray), .string (⟨#[46, 73, 78, 70]⟩ : ByteArray)]) (ok := fun _ => True) (okp := fun _ => True) ?hr ?hp (fun _ hk => hk) trivial (Below.refl _ _) (Nat.le_refl _) (by simp) ?_; (case hd => rfl); (case hg => rfl); (case hr => first | (go_simp; done) | (go_simp; rfl)); (case hp => exact (Reps.one (show Kd.M Kd.string _ _ _ (⟨#[46, 105, 110, 102]⟩ : ByteArray) [.string (⟨#[46, 105, 110, 102]⟩ : ByteArray)] from rfl) (Reps.one (show Kd.M Kd.string _ _ _ (⟨#[46, 73, 110, 102]⟩ : ByteArray) [.string (⟨#[46, 73, 110, 102]⟩ : ByteArray)] from rfl) (Reps.one (show Kd.M Kd.string _ _ _ (⟨#[46, 73, 78, 70]⟩ : ByteArray) [.string (⟨#[46, 73, 78, 70]⟩ : ByteArray)] from rfl) (Reps.none _ _))))); intro v166 w6 ho7 hb hg_ hnew_; clear hg_ hnew_; (first | rw [← Ny165.out] at ho7 | (simp only [Int.reduceToNat] at ho7; rw [← Ny165.out] at ho7)); have n0_ := Aside0.mk (Kd.R_lower ho7 (below_size (by repeat (first | (with_reducible first | exact HB.out | apply below_alloc | apply pw_below_drewN | apply below_drew1) | exact HB.out)))); have n1_ := Aside0.mk (below_step (by repeat (first | (with_reducible first | exact HB.out | apply below_alloc | apply pw_below_drewN | apply below_drew1) | exact HB.out)) hb); clear HB; have HO167 := n0_; have HB := n1_; clear n0_ n1_; clear hb ho7; obtain ⟨Ao8, co8, eo8⟩ := Kd.R_slice HO167.out; subst eo8) | ((with_reducible refine gate_callee (f := 53) rfl ?_); refine goesL_ (some 7) rfl rfl Tryd.func53 (by kernel_rfl) rfl #[.string t164, .slice Ao8 y165.length co8] rfl (by (try simp only [List.map_toArray, List.map_cons, List.map_nil]); first | done | rfl | (simp only [List.length_drop, List.length_take]; rfl)) ?_; (with_reducible refine (grilleref03_one.calls k t164 _ _ y165 true _ ?side1 ?side2 A4.out).mono ?_); (case side1 => repeat (first | exact (Kd.R_reads' HO167.out).2.2 | (with_reducible refine Kd.C_alloc ?_ _) | (with_reducible refine Kd.C_drewN ?_ _) | (with_reducible refine Kd.C_drew ?_))); (case side2 => exact (Kd.R_reads' HO167.out).2.1); rintro e w' ⟨rfl, ⟨nd, rfl⟩⟩; refine ⟨_, rfl, ?_⟩))
      go_meet
      case rel => exact ⟨_, (true), (by first | rfl | (simp; done) | (simp [*]; done) | (simp [xbne_nil, xbeq_nil]; done)), H', ⟨by first | omega | exact Nat.le_refl _⟩, ⟨by repeat (first | (with_reducible first | exact HB.out | apply below_alloc | apply pw_below_drewN | apply below_drew1) | exact HB.out)⟩⟩
    · replace c5 := Bool.eq_false_iff.mpr c5
      subst c5
      have H1 : ((grilleref03_one.f k a0 (([(⟨#[46, 110, 97, 110]⟩ : ByteArray), (⟨#[46, 78, 97, 78]⟩ : ByteArray), (⟨#[46, 78, 65, 78]⟩ : ByteArray)] : List ByteArray))).bind fun t172 => (grilleref03_float.j0 k a0 t172)) = some r := by rw [if_neg (show ¬ (false = true) by decide)] at H; exact H
      clear H
      have H := H1
      clear H1
      obtain ⟨y169, hy169⟩ : ∃ y_ : List ByteArray, y_ = (([(⟨#[46, 110, 97, 110]⟩ : ByteArray), (⟨#[46, 78, 97, 78]⟩ : ByteArray), (⟨#[46, 78, 65, 78]⟩ : ByteArray)] : List ByteArray)) := ⟨_, rfl⟩
      replace H : ((grilleref03_one.f k a0 y169).bind fun t172 => (grilleref03_float.j0 k a0 t172)) = some r := by first | (rw [hy169]; with_reducible exact H) | (have H2_ := (Option.bind_some _ _).symm.trans H; rw [hy169]; with_reducible exact H2_) | (have H2_ := (Option.bind_some _ _).symm.trans H; with_reducible exact H2_) | with_reducible exact H | (rw [hy169]; exact H) | exact H
      have Ny169 := Aside0.mk hy169
      clear hy169
      replace H := Option.bind_eq_some_iff.mp H
      obtain ⟨t172, A90, H⟩ := H
      replace H : (grilleref03_float.j0 k a0 t172) = some r := H
      have A9 := Aside0.mk A90
      clear A90
      have H' := Aside0.mk H
      clear H
      go_wp2_with (first | ((with_reducible refine gate_callee (f := 87) rfl ?_); refine goesL_ (some 5) rfl rfl Tryd.func87 (by kernel_rfl) rfl #[.string a0] rfl (by (try simp only [List.map_toArray, List.map_cons, List.map_nil]); first | done | rfl | (simp only [List.length_drop, List.length_take]; rfl)) ?_; (with_reducible refine (grilleref03_bare.calls a0 t164 _ A3.out).mono ?_); rintro e w' ⟨rfl, ⟨nd, rfl⟩⟩; refine ⟨_, rfl, ?_⟩) | ((with_reducible refine gate_dst (N := 6) rfl ?_); (try (refine gate_guard (by rfl) ?_; dsimp only)); refine Kd.R_lit Kd.string _ 9 ?hg (N := 6) ?hd (xs := ([(⟨#[46, 105, 110, 102]⟩ : ByteArray), (⟨#[46, 73, 110, 102]⟩ : ByteArray), (⟨#[46, 73, 78, 70]⟩ : ByteArray)] : List ByteArray)) (inner := [.string (⟨#[46, 105, 110, 102]⟩ : ByteArray), .string (⟨#[46, 73, 110, 102]⟩ : ByteArray), .string (⟨#[46, 73, 78, 70]⟩ : ByteArray)]) (ok := fun _ => True) (okp := fun _ => True) ?hr ?hp (fun _ hk => hk) trivial (Below.refl _ _) (Nat.le_refl _) (by simp) ?_; (case hd => rfl); (case hg => rfl); (case hr => first | (go_simp; done) | (go_simp; rfl)); (case hp => exact (Reps.one (show Kd.M Kd.string _ _ _ (⟨#[46, 105, 110, 102]⟩ : ByteArray) [.string (⟨#[46, 105, 110, 102]⟩ : ByteArray)] from rfl) (Reps.one (show Kd.M Kd.string _ _ _ (⟨#[46, 73, 110, 102]⟩ : ByteArray) [.string (⟨#[46, 73, 110, 102]⟩ : ByteArray)] from rfl) (Reps.one (show Kd.M Kd.string _ _ _ (⟨#[46, 73, 78, 70]⟩ : ByteArray) [.string (⟨#[46, 73, 78, 70]⟩ : ByteArray)] from rfl) (Reps.none _ _))))); intro v166 w10 ho11 hb hg_ hnew_; clear hg_ hnew_; (first | rw [← Ny165.out] at ho11 | (simp only [Int.reduceToNat] at ho11; rw [← Ny165.out] at ho11)); have n0_ := Aside0.mk (Kd.R_lower ho11 (below_size (by repeat (first | (with_reducible first | exact HB.out | apply below_alloc | apply pw_below_drewN | apply below_drew1) | exact HB.out)))); have n1_ := Aside0.mk (below_step (by repeat (first | (with_reducible first | exact HB.out | apply below_alloc | apply pw_below_drewN | apply below_drew1) | exact HB.out)) hb); clear HB; have HO167 := n0_; have HB := n1_; clear n0_ n1_; clear hb ho11; obtain ⟨Ao12, co12, eo12⟩ := Kd.R_slice HO167.out; subst eo12) | ((with_reducible refine gate_callee (f := 53) rfl ?_); refine goesL_ (some 7) rfl rfl Tryd.func53 (by kernel_rfl) rfl #[.string t164, .slice Ao12 y165.length co12] rfl (by (try simp only [List.map_toArray, List.map_cons, List.map_nil]); first | done | rfl | (simp only [List.length_drop, List.length_take]; rfl)) ?_; (with_reducible refine (grilleref03_one.calls k t164 _ _ y165 false _ ?side1 ?side2 A4.out).mono ?_); (case side1 => repeat (first | exact (Kd.R_reads' HO167.out).2.2 | (with_reducible refine Kd.C_alloc ?_ _) | (with_reducible refine Kd.C_drewN ?_ _) | (with_reducible refine Kd.C_drew ?_))); (case side2 => exact (Kd.R_reads' HO167.out).2.1); rintro e w' ⟨rfl, ⟨nd, rfl⟩⟩; refine ⟨_, rfl, ?_⟩) | ((with_reducible refine gate_dst (N := 10) rfl ?_); (try (refine gate_guard (by rfl) ?_; dsimp only)); refine Kd.R_lit Kd.string _ 9 ?hg (N := 10) ?hd (xs := ([(⟨#[46, 110, 97, 110]⟩ : ByteArray), (⟨#[46, 78, 97, 78]⟩ : ByteArray), (⟨#[46, 78, 65, 78]⟩ : ByteArray)] : List ByteArray)) (inner := [.string (⟨#[46, 110, 97, 110]⟩ : ByteArray), .string (⟨#[46, 78, 97, 78]⟩ : ByteArray), .string (⟨#[46, 78, 65, 78]⟩ : ByteArray)]) (ok := fun _ => True) (okp := fun _ => True) ?hr ?hp (fun _ hk => hk) trivial (Below.refl _ _) (Nat.le_refl _) (by simp) ?_; (case hd => rfl); (case hg => rfl); (case hr => first | (go_simp; done) | (go_simp; rfl)); (case hp => exact (Reps.one (show Kd.M Kd.string _ _ _ (⟨#[46, 110, 97, 110]⟩ : ByteArray) [.string (⟨#[46, 110, 97, 110]⟩ : ByteArray)] from rfl) (Reps.one (show Kd.M Kd.string _ _ _ (⟨#[46, 78, 97, 78]⟩ : ByteArray) [.string (⟨#[46, 78, 97, 78]⟩ : ByteArray)] from rfl) (Reps.one (show Kd.M Kd.string _ _ _ (⟨#[46, 78, 65, 78]⟩ : ByteArray) [.string (⟨#[46, 78, 65, 78]⟩ : ByteArray)] from rfl) (Reps.none _ _))))); intro v170 w13 ho14 hb hg_ hnew_; clear hg_ hnew_; (first | rw [← Ny169.out] at ho14 | (simp only [Int.reduceToNat] at ho14; rw [← Ny169.out] at ho14)); have n0_ := Aside0.mk (Kd.R_elder' (by (with_reducible repeat (first | apply Kd.R_alloc | apply Kd.R_drewN | apply Kd.R_drew)); exact HO167.out) (Kd.R_base ho14) hb); have n1_ := Aside0.mk (Kd.R_lower (Kd.R_new' ho14 (Kd.R_lt (by (with_reducible repeat (first | apply Kd.R_alloc | apply Kd.R_drewN | apply Kd.R_drew)); exact HO167.out))) (below_size (by repeat (first | (with_reducible first | exact HB.out | apply below_alloc | apply pw_below_drewN | apply below_drew1) | exact HB.out)))); have n2_ := Aside0.mk (below_step (by repeat (first | (with_reducible first | exact HB.out | apply below_alloc | apply pw_below_drewN | apply below_drew1) | exact HB.out)) hb); clear HO167; clear HB; have HO167 := n0_; have HO171 := n1_; have HB := n2_; clear n0_ n1_ n2_; clear hb ho14; obtain ⟨Ao15, co15, eo15⟩ := Kd.R_slice HO171.out; subst eo15) | (go_at_call 53; (with_reducible refine (grilleref03_one.calls k a0 _ _ y169 t172 _ ?side1 ?side2 A9.out).mono ?_); (case side1 => repeat (first | exact (Kd.R_reads' HO171.out).2.2 | (with_reducible refine Kd.C_alloc ?_ _) | (with_reducible refine Kd.C_drewN ?_ _) | (with_reducible refine Kd.C_drew ?_))); (case side2 => exact (Kd.R_reads' HO171.out).2.1); rintro e w' ⟨rfl, ⟨nd, rfl⟩⟩))
      go_meet
      case rel => exact ⟨_, (t172), (by first | rfl | (simp; done) | (simp [*]; done) | (simp [xbne_nil, xbeq_nil]; done)), H', ⟨by first | omega | exact Nat.le_refl _⟩, ⟨by repeat (first | (with_reducible first | exact HB.out | apply below_alloc | apply pw_below_drewN | apply below_drew1) | exact HB.out)⟩⟩
  case rest =>
    clear HC2
    try clear p2
    try clear c5
    try clear c8
    obtain ⟨kq, x12_1, rfl, HA, HJ1, HB⟩ := hcut
    cases kq with
    | zero => exact absurd HA.out (by simp [grilleref03_float.j0])
    | succ kj1 =>
      have H := HA.out
      clear HA
      simp only [grilleref03_float.j0] at H
      by_cases c16 : x12_1 = true
      · subst c16
        have H1 : (some true) = some r := by rw [if_pos rfl] at H; exact H
        clear H
        have H := H1
        clear H1
        obtain rfl := Option.some.inj H
        go_wp2
        go_ret
        exact ⟨by first | rfl | (simp [errW_none, errW_some] <;> rfl) | (simp [*, errW_none, errW_some] <;> rfl), by repeat (first | (with_reducible first | exact HB.out | apply below_alloc | apply pw_below_drewN | apply below_drew1) | exact HB.out)⟩
      · replace c16 := Bool.eq_false_iff.mpr c16
        subst c16
        have H1 : ((grilleref03_bare.f a0).bind fun t173 => ((grilleref03_find.f kj1 t173 101 69).bind fun t174 => (if t174 < (t173.size : Int) then (if 0 ≤ (wrap64 (t174 + 1)) then (if (wrap64 (t174 + 1)) ≤ (t173.size : Int) then ((grilleref03_bare.f (t173.extract ((wrap64 (t174 + 1)) : Int).toNat t173.size)).bind fun t175 => ((grilleref03_only.f kj1 t175 (⟨#[48, 49, 50, 51, 52, 53, 54, 55, 56, 57]⟩ : ByteArray)).bind fun t176 => (if t176 = true then (if 0 ≤ t174 then (if t174 ≤ (t173.size : Int) then ((grilleref03_fraction.f kj1 (t173.extract 0 (t174 : Int).toNat)).bind fun t177 => (some t177)) else (none)) else (none)) else (some false)))) else (none)) else (none)) else (if 0 ≤ t174 then (if t174 ≤ (t173.size : Int) then ((grilleref03_fraction.f kj1 (t173.extract 0 (t174 : Int).toNat)).bind fun t178 => (some t178)) else (none)) else (none))))) = some r := by rw [if_neg (show ¬ (false = true) by decide)] at H; exact H
        clear H
        have H := H1
        clear H1
        replace H := Option.bind_eq_some_iff.mp H
        obtain ⟨t173, A170, H⟩ := H
        replace H : ((grilleref03_find.f kj1 t173 101 69).bind fun t174 => (if t174 < (t173.size : Int) then (if 0 ≤ (wrap64 (t174 + 1)) then (if (wrap64 (t174 + 1)) ≤ (t173.size : Int) then ((grilleref03_bare.f (t173.extract ((wrap64 (t174 + 1)) : Int).toNat t173.size)).bind fun t175 => ((grilleref03_only.f kj1 t175 (⟨#[48, 49, 50, 51, 52, 53, 54, 55, 56, 57]⟩ : ByteArray)).bind fun t176 => (if t176 = true then (if 0 ≤ t174 then (if t174 ≤ (t173.size : Int) then ((grilleref03_fraction.f kj1 (t173.extract 0 (t174 : Int).toNat)).bind fun t177 => (some t177)) else (none)) else (none)) else (some false)))) else (none)) else (none)) else (if 0 ≤ t174 then (if t174 ≤ (t173.size : Int) then ((grilleref03_fraction.f kj1 (t173.extract 0 (t174 : Int).toNat)).bind fun t178 => (some t178)) else (none)) else (none)))) = some r := H
        have A17 := Aside0.mk A170
        clear A170
        replace H := Option.bind_eq_some_iff.mp H
        obtain ⟨t174, A180, H⟩ := H
        replace H : (if t174 < (t173.size : Int) then (if 0 ≤ (wrap64 (t174 + 1)) then (if (wrap64 (t174 + 1)) ≤ (t173.size : Int) then ((grilleref03_bare.f (t173.extract ((wrap64 (t174 + 1)) : Int).toNat t173.size)).bind fun t175 => ((grilleref03_only.f kj1 t175 (⟨#[48, 49, 50, 51, 52, 53, 54, 55, 56, 57]⟩ : ByteArray)).bind fun t176 => (if t176 = true then (if 0 ≤ t174 then (if t174 ≤ (t173.size : Int) then ((grilleref03_fraction.f kj1 (t173.extract 0 (t174 : Int).toNat)).bind fun t177 => (some t177)) else (none)) else (none)) else (some false)))) else (none)) else (none)) else (if 0 ≤ t174 then (if t174 ≤ (t173.size : Int) then ((grilleref03_fraction.f kj1 (t173.extract 0 (t174 : Int).toNat)).bind fun t178 => (some t178)) else (none)) else (none))) = some r := H
        have A18 := Aside0.mk A180
        clear A180
        by_cases c19 : t174 < (t173.size : Int)
        · rw [if_pos c19] at H
          have c19b0 : decide (t174 < (t173.size : Int)) = true := decide_eq_true c19
          clear c19
          obtain ⟨ji20, hji20⟩ : ∃ j_ : Int, (wrap64 (t174 + 1)) = j_ := ⟨_, rfl⟩
          replace H : (if 0 ≤ (ji20) then (if (ji20) ≤ (t173.size : Int) then ((grilleref03_bare.f (t173.extract ((ji20) : Int).toNat t173.size)).bind fun t175 => ((grilleref03_only.f kj1 t175 (⟨#[48, 49, 50, 51, 52, 53, 54, 55, 56, 57]⟩ : ByteArray)).bind fun t176 => (if t176 = true then (if 0 ≤ t174 then (if t174 ≤ (t173.size : Int) then ((grilleref03_fraction.f kj1 (t173.extract 0 (t174 : Int).toNat)).bind fun t177 => (some t177)) else (none)) else (none)) else (some false)))) else (none)) else (none)) = some r := by first | (rw [hji20] at H; exact H) | (simp only [hji20] at H ⊢; exact H)
          (try rw [hji20] at A17)
          (try rw [hji20] at A18)
          have hji20w : (IntKind.i64.wrap (t174 + 1)) = ji20 := (i64_w _).trans hji20
          by_cases c21 : 0 ≤ (ji20)
          · rw [if_pos c21] at H
            have c21b0 := eq_true c21
            have c21b1 : decide (0 ≤ (ji20)) = true := decide_eq_true c21
            clear c21
            by_cases c22 : (ji20) ≤ (t173.size : Int)
            · rw [if_pos c22] at H
              have c22b0 := eq_true c22
              have c22b1 : decide ((ji20) ≤ (t173.size : Int)) = true := decide_eq_true c22
              clear c22
              replace H := Option.bind_eq_some_iff.mp H
              obtain ⟨t175, A230, H⟩ := H
              replace H : ((grilleref03_only.f kj1 t175 (⟨#[48, 49, 50, 51, 52, 53, 54, 55, 56, 57]⟩ : ByteArray)).bind fun t176 => (if t176 = true then (if 0 ≤ t174 then (if t174 ≤ (t173.size : Int) then ((grilleref03_fraction.f kj1 (t173.extract 0 (t174 : Int).toNat)).bind fun t177 => (some t177)) else (none)) else (none)) else (some false))) = some r := H
              have A23 := Aside0.mk A230
              clear A230
              replace H := Option.bind_eq_some_iff.mp H
              obtain ⟨t176, A240, H⟩ := H
              replace H : (if t176 = true then (if 0 ≤ t174 then (if t174 ≤ (t173.size : Int) then ((grilleref03_fraction.f kj1 (t173.extract 0 (t174 : Int).toNat)).bind fun t177 => (some t177)) else (none)) else (none)) else (some false)) = some r := H
              have A24 := Aside0.mk A240
              clear A240
              by_cases c25 : t176 = true
              · subst c25
                have H1 : (if 0 ≤ t174 then (if t174 ≤ (t173.size : Int) then ((grilleref03_fraction.f kj1 (t173.extract 0 (t174 : Int).toNat)).bind fun t177 => (some t177)) else (none)) else (none)) = some r := by rw [if_pos rfl] at H; exact H
                clear H
                have H := H1
                clear H1
                by_cases c26 : 0 ≤ t174
                · rw [if_pos c26] at H
                  have c26b0 := eq_true c26
                  have c26b1 : decide (0 ≤ t174) = true := decide_eq_true c26
                  clear c26
                  by_cases c27 : t174 ≤ (t173.size : Int)
                  · rw [if_pos c27] at H
                    have c27b0 := eq_true c27
                    have c27b1 : decide (t174 ≤ (t173.size : Int)) = true := decide_eq_true c27
                    clear c27
                    replace H := Option.bind_eq_some_iff.mp H
                    obtain ⟨t177, A280, H⟩ := H
                    replace H : (some t177) = some r := H
                    have A28 := Aside0.mk A280
                    clear A280
                    obtain rfl := Option.some.inj H
                    go_wp2_with (first | ((with_reducible refine gate_callee (f := 87) rfl ?_); refine goesL_ (some 14) rfl rfl Tryd.func87 (by kernel_rfl) rfl #[.string a0] rfl (by (try simp only [List.map_toArray, List.map_cons, List.map_nil]); first | done | rfl | (simp only [List.length_drop, List.length_take]; rfl)) ?_; (with_reducible refine (grilleref03_bare.calls a0 t173 _ A17.out).mono ?_); rintro e w' ⟨rfl, ⟨nd, rfl⟩⟩; refine ⟨_, rfl, ?_⟩) | ((with_reducible refine gate_callee (f := 88) rfl ?_); refine goesL_ (some 16) rfl rfl Tryd.func88 (by kernel_rfl) rfl #[.string t173, .int .u8 101, .int .u8 69] rfl (by (try simp only [List.map_toArray, List.map_cons, List.map_nil]); first | done | rfl | (simp only [List.length_drop, List.length_take]; rfl)) ?_; (with_reducible refine (grilleref03_find.calls kj1 t173 101 69 t174 _ A18.out).mono ?_); rintro e w' ⟨rfl, ⟨nd, rfl⟩⟩; refine ⟨_, rfl, ?_⟩) | (go_at_call 87; (with_reducible refine (grilleref03_bare.calls (t173.extract ((ji20) : Int).toNat t173.size) t175 _ A23.out).mono ?_); rintro e w' ⟨rfl, ⟨nd, rfl⟩⟩) | (go_at_call 86; (with_reducible refine (grilleref03_only.calls kj1 t175 (⟨#[48, 49, 50, 51, 52, 53, 54, 55, 56, 57]⟩ : ByteArray) true _ A24.out).mono ?_); rintro e w' ⟨rfl, ⟨nd, rfl⟩⟩) | ((with_reducible refine gate_callee (f := 89) rfl ?_); refine goesL_ (some 33) rfl rfl Tryd.func89 (by kernel_rfl) rfl #[.string (t173.extract 0 (t174 : Int).toNat)] rfl (by (try simp only [List.map_toArray, List.map_cons, List.map_nil]); first | done | rfl | (simp only [List.length_drop, List.length_take]; rfl)) ?_; (with_reducible refine (grilleref03_fraction.calls kj1 (t173.extract 0 (t174 : Int).toNat) t177 _ A28.out).mono ?_); rintro e w' ⟨rfl, ⟨nd, rfl⟩⟩; refine ⟨_, rfl, ?_⟩))
                    go_ret
                    exact ⟨by first | rfl | (simp [errW_none, errW_some] <;> rfl) | (simp only [← hji20]; first | rfl | (simp [errW_none, errW_some] <;> rfl)) | (simp [*, errW_none, errW_some] <;> rfl), by repeat (first | (with_reducible first | exact HB.out | apply below_alloc | apply pw_below_drewN | apply below_drew1) | exact HB.out)⟩
                  · rw [if_neg c27] at H
                    exact absurd H (by simp)
                · rw [if_neg c26] at H
                  exact absurd H (by simp)
              · replace c25 := Bool.eq_false_iff.mpr c25
                subst c25
                have H1 : (some false) = some r := by rw [if_neg (show ¬ (false = true) by decide)] at H; exact H
                clear H
                have H := H1
                clear H1
                obtain rfl := Option.some.inj H
                go_wp2_with (first | ((with_reducible refine gate_callee (f := 87) rfl ?_); refine goesL_ (some 14) rfl rfl Tryd.func87 (by kernel_rfl) rfl #[.string a0] rfl (by (try simp only [List.map_toArray, List.map_cons, List.map_nil]); first | done | rfl | (simp only [List.length_drop, List.length_take]; rfl)) ?_; (with_reducible refine (grilleref03_bare.calls a0 t173 _ A17.out).mono ?_); rintro e w' ⟨rfl, ⟨nd, rfl⟩⟩; refine ⟨_, rfl, ?_⟩) | ((with_reducible refine gate_callee (f := 88) rfl ?_); refine goesL_ (some 16) rfl rfl Tryd.func88 (by kernel_rfl) rfl #[.string t173, .int .u8 101, .int .u8 69] rfl (by (try simp only [List.map_toArray, List.map_cons, List.map_nil]); first | done | rfl | (simp only [List.length_drop, List.length_take]; rfl)) ?_; (with_reducible refine (grilleref03_find.calls kj1 t173 101 69 t174 _ A18.out).mono ?_); rintro e w' ⟨rfl, ⟨nd, rfl⟩⟩; refine ⟨_, rfl, ?_⟩) | (go_at_call 87; (with_reducible refine (grilleref03_bare.calls (t173.extract ((ji20) : Int).toNat t173.size) t175 _ A23.out).mono ?_); rintro e w' ⟨rfl, ⟨nd, rfl⟩⟩) | (go_at_call 86; (with_reducible refine (grilleref03_only.calls kj1 t175 (⟨#[48, 49, 50, 51, 52, 53, 54, 55, 56, 57]⟩ : ByteArray) false _ A24.out).mono ?_); rintro e w' ⟨rfl, ⟨nd, rfl⟩⟩))
                go_ret
                exact ⟨by first | rfl | (simp [errW_none, errW_some] <;> rfl) | (simp only [← hji20]; first | rfl | (simp [errW_none, errW_some] <;> rfl)) | (simp [*, errW_none, errW_some] <;> rfl), by repeat (first | (with_reducible first | exact HB.out | apply below_alloc | apply pw_below_drewN | apply below_drew1) | exact HB.out)⟩
            · rw [if_neg c22] at H
              exact absurd H (by simp)
          · rw [if_neg c21] at H
            exact absurd H (by simp)
        · rw [if_neg c19] at H
          have c19b0 : decide (t174 < (t173.size : Int)) = false := decide_eq_false c19
          clear c19
          by_cases c29 : 0 ≤ t174
          · rw [if_pos c29] at H
            have c29b0 := eq_true c29
            have c29b1 : decide (0 ≤ t174) = true := decide_eq_true c29
            clear c29
            by_cases c30 : t174 ≤ (t173.size : Int)
            · rw [if_pos c30] at H
              have c30b0 := eq_true c30
              have c30b1 : decide (t174 ≤ (t173.size : Int)) = true := decide_eq_true c30
              clear c30
              replace H := Option.bind_eq_some_iff.mp H
              obtain ⟨t178, A310, H⟩ := H
              replace H : (some t178) = some r := H
              have A31 := Aside0.mk A310
              clear A310
              obtain rfl := Option.some.inj H
              go_wp2_with (first | ((with_reducible refine gate_callee (f := 87) rfl ?_); refine goesL_ (some 14) rfl rfl Tryd.func87 (by kernel_rfl) rfl #[.string a0] rfl (by (try simp only [List.map_toArray, List.map_cons, List.map_nil]); first | done | rfl | (simp only [List.length_drop, List.length_take]; rfl)) ?_; (with_reducible refine (grilleref03_bare.calls a0 t173 _ A17.out).mono ?_); rintro e w' ⟨rfl, ⟨nd, rfl⟩⟩; refine ⟨_, rfl, ?_⟩) | ((with_reducible refine gate_callee (f := 88) rfl ?_); refine goesL_ (some 16) rfl rfl Tryd.func88 (by kernel_rfl) rfl #[.string t173, .int .u8 101, .int .u8 69] rfl (by (try simp only [List.map_toArray, List.map_cons, List.map_nil]); first | done | rfl | (simp only [List.length_drop, List.length_take]; rfl)) ?_; (with_reducible refine (grilleref03_find.calls kj1 t173 101 69 t174 _ A18.out).mono ?_); rintro e w' ⟨rfl, ⟨nd, rfl⟩⟩; refine ⟨_, rfl, ?_⟩) | ((with_reducible refine gate_callee (f := 89) rfl ?_); refine goesL_ (some 33) rfl rfl Tryd.func89 (by kernel_rfl) rfl #[.string (t173.extract 0 (t174 : Int).toNat)] rfl (by (try simp only [List.map_toArray, List.map_cons, List.map_nil]); first | done | rfl | (simp only [List.length_drop, List.length_take]; rfl)) ?_; (with_reducible refine (grilleref03_fraction.calls kj1 (t173.extract 0 (t174 : Int).toNat) t178 _ A31.out).mono ?_); rintro e w' ⟨rfl, ⟨nd, rfl⟩⟩; refine ⟨_, rfl, ?_⟩))
              go_ret
              exact ⟨by first | rfl | (simp [errW_none, errW_some] <;> rfl) | (simp [*, errW_none, errW_some] <;> rfl), by repeat (first | (with_reducible first | exact HB.out | apply below_alloc | apply pw_below_drewN | apply below_drew1) | exact HB.out)⟩
            · rw [if_neg c30] at H
              exact absurd H (by simp)
          · rw [if_neg c29] at H
            exact absurd H (by simp)
end Go.Proofs.YtgnmjaacnmkgnaaDoor.T
end
