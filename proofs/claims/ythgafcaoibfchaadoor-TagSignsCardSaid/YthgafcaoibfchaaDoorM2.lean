/- Words and walks that the row of TagSigns needs: printed by programs, and plain laws. -/
import Derived.Test.YthgafcaoibfchaaDoorM0
import Derived.Test.YthgafcaoibfchaaDoorM1
import Derived.Lib.Strings
section
namespace Go.Proofs.YthgafcaoibfchaaDoor.X
open Go.RowKit Go.Proofs.YthgafcaoibfchaaDoorW.PrintWords Go.Proofs.YthgafcaoibfchaaDoorW.PrintLast Go.Proofs.YthgafcaoibfchaaDoorW.PrintMore
attribute [local go_sem] max2_int min2_int max_two min_two max_three min_three max_four min_four
set_option linter.unusedVariables false
set_option linter.unusedSimpArgs false
def tag_Fits.f (k : Nat) (a0 : ByteArray) (a1 : ByteArray) : Option (Bool) := (tag_plain.f a0).bind fun t138 => (if t138 = true then ((tag_Resolve.f k a1).bind fun t139 => (if t139.toList = a0.toList then (some true) else (if a0.toList = ([102, 108, 111, 97, 116] : List UInt8) then (some (t139.toList == ([105, 110, 116] : List UInt8))) else (some false)))) else (if a0.toList = ([115, 116, 114] : List UInt8) then (some true) else ((tag_own.f a0).bind fun t140 => (some t140))))
set_option maxHeartbeats 8000000 in
set_option maxRecDepth 100000 in
theorem tag_Fits.calls (k : Nat) (a0 : ByteArray) (a1 : ByteArray) (r : Bool) (w : World) (h : tag_Fits.f k a0 a1 = some r) :
    Calls Tryd.prog 55 #[.string a0, .string a1] w fun e w' => e = .returned (.bool r) ∧ Below w.heap.size w w' := by
  have HB := Aside0.mk (Below.refl w.heap.size w)
  have H : ((tag_plain.f a0).bind fun t138 => (if t138 = true then ((tag_Resolve.f k a1).bind fun t139 => (if t139.toList = a0.toList then (some true) else (if a0.toList = ([102, 108, 111, 97, 116] : List UInt8) then (some (t139.toList == ([105, 110, 116] : List UInt8))) else (some false)))) else (if a0.toList = ([115, 116, 114] : List UInt8) then (some true) else ((tag_own.f a0).bind fun t140 => (some t140))))) = some r := h
  clear h
  replace H := Option.bind_eq_some_iff.mp H
  obtain ⟨t138, A30, H⟩ := H
  replace H : (if t138 = true then ((tag_Resolve.f k a1).bind fun t139 => (if t139.toList = a0.toList then (some true) else (if a0.toList = ([102, 108, 111, 97, 116] : List UInt8) then (some (t139.toList == ([105, 110, 116] : List UInt8))) else (some false)))) else (if a0.toList = ([115, 116, 114] : List UInt8) then (some true) else ((tag_own.f a0).bind fun t140 => (some t140)))) = some r := H
  have A3 := Aside0.mk A30
  clear A30
  by_cases c4 : t138 = true
  · subst c4
    have H1 : ((tag_Resolve.f k a1).bind fun t139 => (if t139.toList = a0.toList then (some true) else (if a0.toList = ([102, 108, 111, 97, 116] : List UInt8) then (some (t139.toList == ([105, 110, 116] : List UInt8))) else (some false)))) = some r := by rw [if_pos rfl] at H; exact H
    clear H
    have H := H1
    clear H1
    replace H := Option.bind_eq_some_iff.mp H
    obtain ⟨t139, A50, H⟩ := H
    replace H : (if t139.toList = a0.toList then (some true) else (if a0.toList = ([102, 108, 111, 97, 116] : List UInt8) then (some (t139.toList == ([105, 110, 116] : List UInt8))) else (some false))) = some r := H
    have A5 := Aside0.mk A50
    clear A50
    by_cases c6 : t139.toList = a0.toList
    · rw [if_pos c6] at H
      have c6b0 : (t139.toList == a0.toList) = true := beq_iff_eq.mpr c6
      have c6b1 : (t139.toList != a0.toList) = false := bne_eq_false_iff_eq.mpr c6
      clear c6
      obtain rfl := Option.some.inj H
      go_enter Tryd.func55, Tryd.ntmps55
      go_wp2_with (first | ((with_reducible refine gate_callee (f := 95) rfl ?_); refine goesL_ (some 7) rfl rfl Tryd.func95 (by kernel_rfl) rfl #[.string a0] rfl (by (try simp only [List.map_toArray, List.map_cons, List.map_nil]); first | done | rfl | (simp only [List.length_drop, List.length_take]; rfl)) ?_; (with_reducible refine (tag_plain.calls a0 true _ A3.out).mono ?_); rintro e w' ⟨rfl, ⟨nd, rfl⟩⟩; refine ⟨_, rfl, ?_⟩) | ((with_reducible refine gate_callee (f := 16) rfl ?_); refine goesL_ (some 16) rfl rfl Tryd.func16 (by kernel_rfl) rfl #[.string a1] rfl (by (try simp only [List.map_toArray, List.map_cons, List.map_nil]); first | done | rfl | (simp only [List.length_drop, List.length_take]; rfl)) ?_; (with_reducible refine (tag_Resolve.calls k a1 t139 _ A5.out).mono ?_); rintro e w' ⟨rfl, ⟨nd, rfl⟩⟩; refine ⟨_, rfl, ?_⟩))
      go_ret
      exact ⟨by first | rfl | (simp [errW_none, errW_some] <;> rfl) | (simp [*, errW_none, errW_some] <;> rfl), by repeat (first | (with_reducible first | exact HB.out | apply below_alloc | apply pw_below_drewN | apply below_drew1) | exact HB.out)⟩
    · rw [if_neg c6] at H
      have c6b0 : (t139.toList == a0.toList) = false := beq_eq_false_iff_ne.mpr c6
      have c6b1 : (t139.toList != a0.toList) = true := bne_iff_ne.mpr c6
      by_cases c7 : a0.toList = ([102, 108, 111, 97, 116] : List UInt8)
      · rw [if_pos c7] at H
        have c7b0 : (a0.toList == ([102, 108, 111, 97, 116] : List UInt8)) = true := beq_iff_eq.mpr c7
        have c7b1 : (a0.toList != ([102, 108, 111, 97, 116] : List UInt8)) = false := bne_eq_false_iff_eq.mpr c7
        clear c7
        obtain rfl := Option.some.inj H
        go_enter Tryd.func55, Tryd.ntmps55
        go_wp2_with (first | ((with_reducible refine gate_callee (f := 95) rfl ?_); refine goesL_ (some 7) rfl rfl Tryd.func95 (by kernel_rfl) rfl #[.string a0] rfl (by (try simp only [List.map_toArray, List.map_cons, List.map_nil]); first | done | rfl | (simp only [List.length_drop, List.length_take]; rfl)) ?_; (with_reducible refine (tag_plain.calls a0 true _ A3.out).mono ?_); rintro e w' ⟨rfl, ⟨nd, rfl⟩⟩; refine ⟨_, rfl, ?_⟩) | ((with_reducible refine gate_callee (f := 16) rfl ?_); refine goesL_ (some 16) rfl rfl Tryd.func16 (by kernel_rfl) rfl #[.string a1] rfl (by (try simp only [List.map_toArray, List.map_cons, List.map_nil]); first | done | rfl | (simp only [List.length_drop, List.length_take]; rfl)) ?_; (with_reducible refine (tag_Resolve.calls k a1 t139 _ A5.out).mono ?_); rintro e w' ⟨rfl, ⟨nd, rfl⟩⟩; refine ⟨_, rfl, ?_⟩))
        go_ret
        exact ⟨by first | rfl | (simp [errW_none, errW_some] <;> rfl) | (simp [*, errW_none, errW_some] <;> rfl), by repeat (first | (with_reducible first | exact HB.out | apply below_alloc | apply pw_below_drewN | apply below_drew1) | exact HB.out)⟩
      · rw [if_neg c7] at H
        have c7b0 : (a0.toList == ([102, 108, 111, 97, 116] : List UInt8)) = false := beq_eq_false_iff_ne.mpr c7
        have c7b1 : (a0.toList != ([102, 108, 111, 97, 116] : List UInt8)) = true := bne_iff_ne.mpr c7
        obtain rfl := Option.some.inj H
        go_enter Tryd.func55, Tryd.ntmps55
        go_wp2_with (first | ((with_reducible refine gate_callee (f := 95) rfl ?_); refine goesL_ (some 7) rfl rfl Tryd.func95 (by kernel_rfl) rfl #[.string a0] rfl (by (try simp only [List.map_toArray, List.map_cons, List.map_nil]); first | done | rfl | (simp only [List.length_drop, List.length_take]; rfl)) ?_; (with_reducible refine (tag_plain.calls a0 true _ A3.out).mono ?_); rintro e w' ⟨rfl, ⟨nd, rfl⟩⟩; refine ⟨_, rfl, ?_⟩) | ((with_reducible refine gate_callee (f := 16) rfl ?_); refine goesL_ (some 16) rfl rfl Tryd.func16 (by kernel_rfl) rfl #[.string a1] rfl (by (try simp only [List.map_toArray, List.map_cons, List.map_nil]); first | done | rfl | (simp only [List.length_drop, List.length_take]; rfl)) ?_; (with_reducible refine (tag_Resolve.calls k a1 t139 _ A5.out).mono ?_); rintro e w' ⟨rfl, ⟨nd, rfl⟩⟩; refine ⟨_, rfl, ?_⟩))
        go_ret
        exact ⟨by first | rfl | (simp [errW_none, errW_some] <;> rfl) | (simp [*, errW_none, errW_some] <;> rfl), by repeat (first | (with_reducible first | exact HB.out | apply below_alloc | apply pw_below_drewN | apply below_drew1) | exact HB.out)⟩
  · replace c4 := Bool.eq_false_iff.mpr c4
    subst c4
    have H1 : (if a0.toList = ([115, 116, 114] : List UInt8) then (some true) else ((tag_own.f a0).bind fun t140 => (some t140))) = some r := by rw [if_neg (show ¬ (false = true) by decide)] at H; exact H
    clear H
    have H := H1
    clear H1
    by_cases c8 : a0.toList = ([115, 116, 114] : List UInt8)
    · rw [if_pos c8] at H
      have c8b0 : (a0.toList == ([115, 116, 114] : List UInt8)) = true := beq_iff_eq.mpr c8
      have c8b1 : (a0.toList != ([115, 116, 114] : List UInt8)) = false := bne_eq_false_iff_eq.mpr c8
      clear c8
      obtain rfl := Option.some.inj H
      go_enter Tryd.func55, Tryd.ntmps55
      go_wp2_with (first | ((with_reducible refine gate_callee (f := 95) rfl ?_); refine goesL_ (some 7) rfl rfl Tryd.func95 (by kernel_rfl) rfl #[.string a0] rfl (by (try simp only [List.map_toArray, List.map_cons, List.map_nil]); first | done | rfl | (simp only [List.length_drop, List.length_take]; rfl)) ?_; (with_reducible refine (tag_plain.calls a0 false _ A3.out).mono ?_); rintro e w' ⟨rfl, ⟨nd, rfl⟩⟩; refine ⟨_, rfl, ?_⟩))
      go_ret
      exact ⟨by first | rfl | (simp [errW_none, errW_some] <;> rfl) | (simp [*, errW_none, errW_some] <;> rfl), by repeat (first | (with_reducible first | exact HB.out | apply below_alloc | apply pw_below_drewN | apply below_drew1) | exact HB.out)⟩
    · rw [if_neg c8] at H
      have c8b0 : (a0.toList == ([115, 116, 114] : List UInt8)) = false := beq_eq_false_iff_ne.mpr c8
      have c8b1 : (a0.toList != ([115, 116, 114] : List UInt8)) = true := bne_iff_ne.mpr c8
      replace H := Option.bind_eq_some_iff.mp H
      obtain ⟨t140, A90, H⟩ := H
      replace H : (some t140) = some r := H
      have A9 := Aside0.mk A90
      clear A90
      obtain rfl := Option.some.inj H
      go_enter Tryd.func55, Tryd.ntmps55
      go_wp2_with (first | ((with_reducible refine gate_callee (f := 95) rfl ?_); refine goesL_ (some 7) rfl rfl Tryd.func95 (by kernel_rfl) rfl #[.string a0] rfl (by (try simp only [List.map_toArray, List.map_cons, List.map_nil]); first | done | rfl | (simp only [List.length_drop, List.length_take]; rfl)) ?_; (with_reducible refine (tag_plain.calls a0 false _ A3.out).mono ?_); rintro e w' ⟨rfl, ⟨nd, rfl⟩⟩; refine ⟨_, rfl, ?_⟩) | (go_at_call 94; (with_reducible refine (tag_own.calls a0 t140 _ A9.out).mono ?_); rintro e w10 ⟨rfl, hb⟩; have n0_ := Aside0.mk (below_step (by repeat (first | (with_reducible first | exact HB.out | apply below_alloc | apply pw_below_drewN | apply below_drew1) | exact HB.out)) hb); clear HB; have HB := n0_; clear n0_; (try clear hb); (try clear hb2); (try clear hk); (try clear hi)))
      go_ret
      exact ⟨by first | rfl | (simp [errW_none, errW_some] <;> rfl) | (simp [*, errW_none, errW_some] <;> rfl), by repeat (first | (with_reducible first | exact HB.out | apply below_alloc | apply pw_below_drewN | apply below_drew1) | exact HB.out)⟩
def grillelaw03_alive.f (k : Nat)  : Option (Bool) := (tag_Read.f (⟨#[33, 33, 105, 110, 116]⟩ : ByteArray)).bind fun bt141 => ((tag_Read.f (⟨#[105, 110, 116]⟩ : ByteArray)).bind fun bt143 => ((tag_Resolve.f k (⟨#[48, 120, 49, 70]⟩ : ByteArray)).bind fun t145 => (if t145.toList = ([105, 110, 116] : List UInt8) then ((tag_Resolve.f k (⟨#[49, 46]⟩ : ByteArray)).bind fun t146 => (if t146.toList = ([102, 108, 111, 97, 116] : List UInt8) then ((tag_Resolve.f k (⟨#[49, 46, 50, 46, 51]⟩ : ByteArray)).bind fun t147 => (if t147.toList = ([115, 116, 114] : List UInt8) then ((tag_Word.f (⟨#[33, 97]⟩ : ByteArray)).bind fun t148 => (if t148.toList = ([33, 97] : List UInt8) then (if bt141.1.toList = ([105, 110, 116] : List UInt8) then (if bt141.2 = 0 then (if bt143.2 = 14 then ((tag_Core.f (⟨#[115, 101, 113]⟩ : ByteArray)).bind fun t149 => (if t149 = true then ((tag_Right.f (⟨#[33, 120, 45, 49]⟩ : ByteArray)).bind fun t150 => (if t150 = true then ((tag_Fits.f k (⟨#[102, 108, 111, 97, 116]⟩ : ByteArray) (⟨#[49]⟩ : ByteArray)).bind fun t151 => (some t151)) else (some false))) else (some false))) else (some false)) else (some false)) else (some false)) else (some false))) else (some false))) else (some false))) else (some false))))
set_option maxHeartbeats 8000000 in
set_option maxRecDepth 100000 in
theorem grillelaw03_alive.calls (k : Nat)  (r : Bool) (w : World) (h : grillelaw03_alive.f k  = some r) :
    Calls Tryd.prog 14 #[] w fun e w' => e = .returned (.bool r) ∧ Below w.heap.size w w' := by
  have HB := Aside0.mk (Below.refl w.heap.size w)
  have H : ((tag_Read.f (⟨#[33, 33, 105, 110, 116]⟩ : ByteArray)).bind fun bt141 => ((tag_Read.f (⟨#[105, 110, 116]⟩ : ByteArray)).bind fun bt143 => ((tag_Resolve.f k (⟨#[48, 120, 49, 70]⟩ : ByteArray)).bind fun t145 => (if t145.toList = ([105, 110, 116] : List UInt8) then ((tag_Resolve.f k (⟨#[49, 46]⟩ : ByteArray)).bind fun t146 => (if t146.toList = ([102, 108, 111, 97, 116] : List UInt8) then ((tag_Resolve.f k (⟨#[49, 46, 50, 46, 51]⟩ : ByteArray)).bind fun t147 => (if t147.toList = ([115, 116, 114] : List UInt8) then ((tag_Word.f (⟨#[33, 97]⟩ : ByteArray)).bind fun t148 => (if t148.toList = ([33, 97] : List UInt8) then (if bt141.1.toList = ([105, 110, 116] : List UInt8) then (if bt141.2 = 0 then (if bt143.2 = 14 then ((tag_Core.f (⟨#[115, 101, 113]⟩ : ByteArray)).bind fun t149 => (if t149 = true then ((tag_Right.f (⟨#[33, 120, 45, 49]⟩ : ByteArray)).bind fun t150 => (if t150 = true then ((tag_Fits.f k (⟨#[102, 108, 111, 97, 116]⟩ : ByteArray) (⟨#[49]⟩ : ByteArray)).bind fun t151 => (some t151)) else (some false))) else (some false))) else (some false)) else (some false)) else (some false)) else (some false))) else (some false))) else (some false))) else (some false))))) = some r := h
  clear h
  replace H := Option.bind_eq_some_iff.mp H
  obtain ⟨⟨t141, t142⟩, A10, H⟩ := H
  replace H : ((tag_Read.f (⟨#[105, 110, 116]⟩ : ByteArray)).bind fun bt143 => ((tag_Resolve.f k (⟨#[48, 120, 49, 70]⟩ : ByteArray)).bind fun t145 => (if t145.toList = ([105, 110, 116] : List UInt8) then ((tag_Resolve.f k (⟨#[49, 46]⟩ : ByteArray)).bind fun t146 => (if t146.toList = ([102, 108, 111, 97, 116] : List UInt8) then ((tag_Resolve.f k (⟨#[49, 46, 50, 46, 51]⟩ : ByteArray)).bind fun t147 => (if t147.toList = ([115, 116, 114] : List UInt8) then ((tag_Word.f (⟨#[33, 97]⟩ : ByteArray)).bind fun t148 => (if t148.toList = ([33, 97] : List UInt8) then (if t141.toList = ([105, 110, 116] : List UInt8) then (if t142 = 0 then (if bt143.2 = 14 then ((tag_Core.f (⟨#[115, 101, 113]⟩ : ByteArray)).bind fun t149 => (if t149 = true then ((tag_Right.f (⟨#[33, 120, 45, 49]⟩ : ByteArray)).bind fun t150 => (if t150 = true then ((tag_Fits.f k (⟨#[102, 108, 111, 97, 116]⟩ : ByteArray) (⟨#[49]⟩ : ByteArray)).bind fun t151 => (some t151)) else (some false))) else (some false))) else (some false)) else (some false)) else (some false)) else (some false))) else (some false))) else (some false))) else (some false)))) = some r := H
  have A1 := Aside0.mk A10
  clear A10
  replace H := Option.bind_eq_some_iff.mp H
  obtain ⟨⟨t143, t144⟩, A20, H⟩ := H
  replace H : ((tag_Resolve.f k (⟨#[48, 120, 49, 70]⟩ : ByteArray)).bind fun t145 => (if t145.toList = ([105, 110, 116] : List UInt8) then ((tag_Resolve.f k (⟨#[49, 46]⟩ : ByteArray)).bind fun t146 => (if t146.toList = ([102, 108, 111, 97, 116] : List UInt8) then ((tag_Resolve.f k (⟨#[49, 46, 50, 46, 51]⟩ : ByteArray)).bind fun t147 => (if t147.toList = ([115, 116, 114] : List UInt8) then ((tag_Word.f (⟨#[33, 97]⟩ : ByteArray)).bind fun t148 => (if t148.toList = ([33, 97] : List UInt8) then (if t141.toList = ([105, 110, 116] : List UInt8) then (if t142 = 0 then (if t144 = 14 then ((tag_Core.f (⟨#[115, 101, 113]⟩ : ByteArray)).bind fun t149 => (if t149 = true then ((tag_Right.f (⟨#[33, 120, 45, 49]⟩ : ByteArray)).bind fun t150 => (if t150 = true then ((tag_Fits.f k (⟨#[102, 108, 111, 97, 116]⟩ : ByteArray) (⟨#[49]⟩ : ByteArray)).bind fun t151 => (some t151)) else (some false))) else (some false))) else (some false)) else (some false)) else (some false)) else (some false))) else (some false))) else (some false))) else (some false))) = some r := H
  have A2 := Aside0.mk A20
  clear A20
  replace H := Option.bind_eq_some_iff.mp H
  obtain ⟨t145, A30, H⟩ := H
  replace H : (if t145.toList = ([105, 110, 116] : List UInt8) then ((tag_Resolve.f k (⟨#[49, 46]⟩ : ByteArray)).bind fun t146 => (if t146.toList = ([102, 108, 111, 97, 116] : List UInt8) then ((tag_Resolve.f k (⟨#[49, 46, 50, 46, 51]⟩ : ByteArray)).bind fun t147 => (if t147.toList = ([115, 116, 114] : List UInt8) then ((tag_Word.f (⟨#[33, 97]⟩ : ByteArray)).bind fun t148 => (if t148.toList = ([33, 97] : List UInt8) then (if t141.toList = ([105, 110, 116] : List UInt8) then (if t142 = 0 then (if t144 = 14 then ((tag_Core.f (⟨#[115, 101, 113]⟩ : ByteArray)).bind fun t149 => (if t149 = true then ((tag_Right.f (⟨#[33, 120, 45, 49]⟩ : ByteArray)).bind fun t150 => (if t150 = true then ((tag_Fits.f k (⟨#[102, 108, 111, 97, 116]⟩ : ByteArray) (⟨#[49]⟩ : ByteArray)).bind fun t151 => (some t151)) else (some false))) else (some false))) else (some false)) else (some false)) else (some false)) else (some false))) else (some false))) else (some false))) else (some false)) = some r := H
  have A3 := Aside0.mk A30
  clear A30
  by_cases c4 : t145.toList = ([105, 110, 116] : List UInt8)
  · rw [if_pos c4] at H
    have c4b0 : (t145.toList == ([105, 110, 116] : List UInt8)) = true := beq_iff_eq.mpr c4
    have c4b1 : (t145.toList != ([105, 110, 116] : List UInt8)) = false := bne_eq_false_iff_eq.mpr c4
    clear c4
    replace H := Option.bind_eq_some_iff.mp H
    obtain ⟨t146, A50, H⟩ := H
    replace H : (if t146.toList = ([102, 108, 111, 97, 116] : List UInt8) then ((tag_Resolve.f k (⟨#[49, 46, 50, 46, 51]⟩ : ByteArray)).bind fun t147 => (if t147.toList = ([115, 116, 114] : List UInt8) then ((tag_Word.f (⟨#[33, 97]⟩ : ByteArray)).bind fun t148 => (if t148.toList = ([33, 97] : List UInt8) then (if t141.toList = ([105, 110, 116] : List UInt8) then (if t142 = 0 then (if t144 = 14 then ((tag_Core.f (⟨#[115, 101, 113]⟩ : ByteArray)).bind fun t149 => (if t149 = true then ((tag_Right.f (⟨#[33, 120, 45, 49]⟩ : ByteArray)).bind fun t150 => (if t150 = true then ((tag_Fits.f k (⟨#[102, 108, 111, 97, 116]⟩ : ByteArray) (⟨#[49]⟩ : ByteArray)).bind fun t151 => (some t151)) else (some false))) else (some false))) else (some false)) else (some false)) else (some false)) else (some false))) else (some false))) else (some false)) = some r := H
    have A5 := Aside0.mk A50
    clear A50
    by_cases c6 : t146.toList = ([102, 108, 111, 97, 116] : List UInt8)
    · rw [if_pos c6] at H
      have c6b0 : (t146.toList == ([102, 108, 111, 97, 116] : List UInt8)) = true := beq_iff_eq.mpr c6
      have c6b1 : (t146.toList != ([102, 108, 111, 97, 116] : List UInt8)) = false := bne_eq_false_iff_eq.mpr c6
      clear c6
      replace H := Option.bind_eq_some_iff.mp H
      obtain ⟨t147, A70, H⟩ := H
      replace H : (if t147.toList = ([115, 116, 114] : List UInt8) then ((tag_Word.f (⟨#[33, 97]⟩ : ByteArray)).bind fun t148 => (if t148.toList = ([33, 97] : List UInt8) then (if t141.toList = ([105, 110, 116] : List UInt8) then (if t142 = 0 then (if t144 = 14 then ((tag_Core.f (⟨#[115, 101, 113]⟩ : ByteArray)).bind fun t149 => (if t149 = true then ((tag_Right.f (⟨#[33, 120, 45, 49]⟩ : ByteArray)).bind fun t150 => (if t150 = true then ((tag_Fits.f k (⟨#[102, 108, 111, 97, 116]⟩ : ByteArray) (⟨#[49]⟩ : ByteArray)).bind fun t151 => (some t151)) else (some false))) else (some false))) else (some false)) else (some false)) else (some false)) else (some false))) else (some false)) = some r := H
      have A7 := Aside0.mk A70
      clear A70
      by_cases c8 : t147.toList = ([115, 116, 114] : List UInt8)
      · rw [if_pos c8] at H
        have c8b0 : (t147.toList == ([115, 116, 114] : List UInt8)) = true := beq_iff_eq.mpr c8
        have c8b1 : (t147.toList != ([115, 116, 114] : List UInt8)) = false := bne_eq_false_iff_eq.mpr c8
        clear c8
        replace H := Option.bind_eq_some_iff.mp H
        obtain ⟨t148, A90, H⟩ := H
        replace H : (if t148.toList = ([33, 97] : List UInt8) then (if t141.toList = ([105, 110, 116] : List UInt8) then (if t142 = 0 then (if t144 = 14 then ((tag_Core.f (⟨#[115, 101, 113]⟩ : ByteArray)).bind fun t149 => (if t149 = true then ((tag_Right.f (⟨#[33, 120, 45, 49]⟩ : ByteArray)).bind fun t150 => (if t150 = true then ((tag_Fits.f k (⟨#[102, 108, 111, 97, 116]⟩ : ByteArray) (⟨#[49]⟩ : ByteArray)).bind fun t151 => (some t151)) else (some false))) else (some false))) else (some false)) else (some false)) else (some false)) else (some false)) = some r := H
        have A9 := Aside0.mk A90
        clear A90
        by_cases c10 : t148.toList = ([33, 97] : List UInt8)
        · rw [if_pos c10] at H
          have c10b0 : (t148.toList == ([33, 97] : List UInt8)) = true := beq_iff_eq.mpr c10
          have c10b1 : (t148.toList != ([33, 97] : List UInt8)) = false := bne_eq_false_iff_eq.mpr c10
          clear c10
          by_cases c11 : t141.toList = ([105, 110, 116] : List UInt8)
          · rw [if_pos c11] at H
            have c11b0 : (t141.toList == ([105, 110, 116] : List UInt8)) = true := beq_iff_eq.mpr c11
            have c11b1 : (t141.toList != ([105, 110, 116] : List UInt8)) = false := bne_eq_false_iff_eq.mpr c11
            clear c11
            by_cases c12 : t142 = 0
            · rw [if_pos c12] at H
              have c12b0 : (t142 == 0) = true := beq_iff_eq.mpr c12
              have c12b1 : (t142 != 0) = false := bne_eq_false_iff_eq.mpr c12
              clear c12
              by_cases c13 : t144 = 14
              · rw [if_pos c13] at H
                have c13b0 : (t144 == 14) = true := beq_iff_eq.mpr c13
                have c13b1 : (t144 != 14) = false := bne_eq_false_iff_eq.mpr c13
                clear c13
                replace H := Option.bind_eq_some_iff.mp H
                obtain ⟨t149, A140, H⟩ := H
                replace H : (if t149 = true then ((tag_Right.f (⟨#[33, 120, 45, 49]⟩ : ByteArray)).bind fun t150 => (if t150 = true then ((tag_Fits.f k (⟨#[102, 108, 111, 97, 116]⟩ : ByteArray) (⟨#[49]⟩ : ByteArray)).bind fun t151 => (some t151)) else (some false))) else (some false)) = some r := H
                have A14 := Aside0.mk A140
                clear A140
                by_cases c15 : t149 = true
                · subst c15
                  have H1 : ((tag_Right.f (⟨#[33, 120, 45, 49]⟩ : ByteArray)).bind fun t150 => (if t150 = true then ((tag_Fits.f k (⟨#[102, 108, 111, 97, 116]⟩ : ByteArray) (⟨#[49]⟩ : ByteArray)).bind fun t151 => (some t151)) else (some false))) = some r := by rw [if_pos rfl] at H; exact H
                  clear H
                  have H := H1
                  clear H1
                  replace H := Option.bind_eq_some_iff.mp H
                  obtain ⟨t150, A160, H⟩ := H
                  replace H : (if t150 = true then ((tag_Fits.f k (⟨#[102, 108, 111, 97, 116]⟩ : ByteArray) (⟨#[49]⟩ : ByteArray)).bind fun t151 => (some t151)) else (some false)) = some r := H
                  have A16 := Aside0.mk A160
                  clear A160
                  by_cases c17 : t150 = true
                  · subst c17
                    have H1 : ((tag_Fits.f k (⟨#[102, 108, 111, 97, 116]⟩ : ByteArray) (⟨#[49]⟩ : ByteArray)).bind fun t151 => (some t151)) = some r := by rw [if_pos rfl] at H; exact H
                    clear H
                    have H := H1
                    clear H1
                    replace H := Option.bind_eq_some_iff.mp H
                    obtain ⟨t151, A180, H⟩ := H
                    replace H : (some t151) = some r := H
                    have A18 := Aside0.mk A180
                    clear A180
                    obtain rfl := Option.some.inj H
                    go_enter Tryd.func14, Tryd.ntmps14
                    go_wp2_with (first | ((with_reducible refine gate_callee (f := 51) rfl ?_); refine goesL_ (some 6) rfl rfl Tryd.func51 (by kernel_rfl) rfl #[.string (⟨#[33, 33, 105, 110, 116]⟩ : ByteArray)] rfl (by (try simp only [List.map_toArray, List.map_cons, List.map_nil]); first | done | rfl | (simp only [List.length_drop, List.length_take]; rfl)) ?_; (with_reducible refine (tag_Read.calls (⟨#[33, 33, 105, 110, 116]⟩ : ByteArray) t141 t142 _ A1.out).mono ?_); rintro e w19 ⟨rfl, hb⟩; refine ⟨_, rfl, ?_⟩; have n0_ := Aside0.mk (below_step (by repeat (first | (with_reducible first | exact HB.out | apply below_alloc | apply pw_below_drewN | apply below_drew1) | exact HB.out)) hb); clear HB; have HB := n0_; clear n0_; (try clear hb); (try clear hb2); (try clear hk); (try clear hi)) | ((with_reducible refine gate_callee (f := 51) rfl ?_); refine goesL_ (some 10) rfl rfl Tryd.func51 (by kernel_rfl) rfl #[.string (⟨#[105, 110, 116]⟩ : ByteArray)] rfl (by (try simp only [List.map_toArray, List.map_cons, List.map_nil]); first | done | rfl | (simp only [List.length_drop, List.length_take]; rfl)) ?_; (with_reducible refine (tag_Read.calls (⟨#[105, 110, 116]⟩ : ByteArray) t143 t144 _ A2.out).mono ?_); rintro e w20 ⟨rfl, hb⟩; refine ⟨_, rfl, ?_⟩; have n0_ := Aside0.mk (below_step (by repeat (first | (with_reducible first | exact HB.out | apply below_alloc | apply pw_below_drewN | apply below_drew1) | exact HB.out)) hb); clear HB; have HB := n0_; clear n0_; (try clear hb); (try clear hb2); (try clear hk); (try clear hi)) | ((with_reducible refine gate_callee (f := 16) rfl ?_); refine goesL_ (some 13) rfl rfl Tryd.func16 (by kernel_rfl) rfl #[.string (⟨#[48, 120, 49, 70]⟩ : ByteArray)] rfl (by (try simp only [List.map_toArray, List.map_cons, List.map_nil]); first | done | rfl | (simp only [List.length_drop, List.length_take]; rfl)) ?_; (with_reducible refine (tag_Resolve.calls k (⟨#[48, 120, 49, 70]⟩ : ByteArray) t145 _ A3.out).mono ?_); rintro e w' ⟨rfl, ⟨nd, rfl⟩⟩; refine ⟨_, rfl, ?_⟩) | (go_at_call 16; (with_reducible refine (tag_Resolve.calls k (⟨#[49, 46]⟩ : ByteArray) t146 _ A5.out).mono ?_); rintro e w' ⟨rfl, ⟨nd, rfl⟩⟩) | (go_at_call 16; (with_reducible refine (tag_Resolve.calls k (⟨#[49, 46, 50, 46, 51]⟩ : ByteArray) t147 _ A7.out).mono ?_); rintro e w' ⟨rfl, ⟨nd, rfl⟩⟩) | (go_at_call 52; (with_reducible refine (tag_Word.calls (⟨#[33, 97]⟩ : ByteArray) t148 _ A9.out).mono ?_); rintro e w21 ⟨rfl, hb⟩; have n0_ := Aside0.mk (below_step (by repeat (first | (with_reducible first | exact HB.out | apply below_alloc | apply pw_below_drewN | apply below_drew1) | exact HB.out)) hb); clear HB; have HB := n0_; clear n0_; (try clear hb); (try clear hb2); (try clear hk); (try clear hi)) | (go_at_call 53; (with_reducible refine (tag_Core.calls (⟨#[115, 101, 113]⟩ : ByteArray) true _ A14.out).mono ?_); rintro e w' ⟨rfl, ⟨nd, rfl⟩⟩) | (go_at_call 54; (with_reducible refine (tag_Right.calls (⟨#[33, 120, 45, 49]⟩ : ByteArray) true _ A16.out).mono ?_); rintro e w22 ⟨rfl, hb⟩; have n0_ := Aside0.mk (below_step (by repeat (first | (with_reducible first | exact HB.out | apply below_alloc | apply pw_below_drewN | apply below_drew1) | exact HB.out)) hb); clear HB; have HB := n0_; clear n0_; (try clear hb); (try clear hb2); (try clear hk); (try clear hi)) | (go_at_call 55; (with_reducible refine (tag_Fits.calls k (⟨#[102, 108, 111, 97, 116]⟩ : ByteArray) (⟨#[49]⟩ : ByteArray) t151 _ A18.out).mono ?_); rintro e w23 ⟨rfl, hb⟩; have n0_ := Aside0.mk (below_step (by repeat (first | (with_reducible first | exact HB.out | apply below_alloc | apply pw_below_drewN | apply below_drew1) | exact HB.out)) hb); clear HB; have HB := n0_; clear n0_; (try clear hb); (try clear hb2); (try clear hk); (try clear hi)))
                    go_ret
                    exact ⟨by first | rfl | (simp [errW_none, errW_some] <;> rfl) | (simp [*, errW_none, errW_some] <;> rfl), by repeat (first | (with_reducible first | exact HB.out | apply below_alloc | apply pw_below_drewN | apply below_drew1) | exact HB.out)⟩
                  · replace c17 := Bool.eq_false_iff.mpr c17
                    subst c17
                    have H1 : (some false) = some r := by rw [if_neg (show ¬ (false = true) by decide)] at H; exact H
                    clear H
                    have H := H1
                    clear H1
                    obtain rfl := Option.some.inj H
                    go_enter Tryd.func14, Tryd.ntmps14
                    go_wp2_with (first | ((with_reducible refine gate_callee (f := 51) rfl ?_); refine goesL_ (some 6) rfl rfl Tryd.func51 (by kernel_rfl) rfl #[.string (⟨#[33, 33, 105, 110, 116]⟩ : ByteArray)] rfl (by (try simp only [List.map_toArray, List.map_cons, List.map_nil]); first | done | rfl | (simp only [List.length_drop, List.length_take]; rfl)) ?_; (with_reducible refine (tag_Read.calls (⟨#[33, 33, 105, 110, 116]⟩ : ByteArray) t141 t142 _ A1.out).mono ?_); rintro e w24 ⟨rfl, hb⟩; refine ⟨_, rfl, ?_⟩; have n0_ := Aside0.mk (below_step (by repeat (first | (with_reducible first | exact HB.out | apply below_alloc | apply pw_below_drewN | apply below_drew1) | exact HB.out)) hb); clear HB; have HB := n0_; clear n0_; (try clear hb); (try clear hb2); (try clear hk); (try clear hi)) | ((with_reducible refine gate_callee (f := 51) rfl ?_); refine goesL_ (some 10) rfl rfl Tryd.func51 (by kernel_rfl) rfl #[.string (⟨#[105, 110, 116]⟩ : ByteArray)] rfl (by (try simp only [List.map_toArray, List.map_cons, List.map_nil]); first | done | rfl | (simp only [List.length_drop, List.length_take]; rfl)) ?_; (with_reducible refine (tag_Read.calls (⟨#[105, 110, 116]⟩ : ByteArray) t143 t144 _ A2.out).mono ?_); rintro e w25 ⟨rfl, hb⟩; refine ⟨_, rfl, ?_⟩; have n0_ := Aside0.mk (below_step (by repeat (first | (with_reducible first | exact HB.out | apply below_alloc | apply pw_below_drewN | apply below_drew1) | exact HB.out)) hb); clear HB; have HB := n0_; clear n0_; (try clear hb); (try clear hb2); (try clear hk); (try clear hi)) | ((with_reducible refine gate_callee (f := 16) rfl ?_); refine goesL_ (some 13) rfl rfl Tryd.func16 (by kernel_rfl) rfl #[.string (⟨#[48, 120, 49, 70]⟩ : ByteArray)] rfl (by (try simp only [List.map_toArray, List.map_cons, List.map_nil]); first | done | rfl | (simp only [List.length_drop, List.length_take]; rfl)) ?_; (with_reducible refine (tag_Resolve.calls k (⟨#[48, 120, 49, 70]⟩ : ByteArray) t145 _ A3.out).mono ?_); rintro e w' ⟨rfl, ⟨nd, rfl⟩⟩; refine ⟨_, rfl, ?_⟩) | (go_at_call 16; (with_reducible refine (tag_Resolve.calls k (⟨#[49, 46]⟩ : ByteArray) t146 _ A5.out).mono ?_); rintro e w' ⟨rfl, ⟨nd, rfl⟩⟩) | (go_at_call 16; (with_reducible refine (tag_Resolve.calls k (⟨#[49, 46, 50, 46, 51]⟩ : ByteArray) t147 _ A7.out).mono ?_); rintro e w' ⟨rfl, ⟨nd, rfl⟩⟩) | (go_at_call 52; (with_reducible refine (tag_Word.calls (⟨#[33, 97]⟩ : ByteArray) t148 _ A9.out).mono ?_); rintro e w26 ⟨rfl, hb⟩; have n0_ := Aside0.mk (below_step (by repeat (first | (with_reducible first | exact HB.out | apply below_alloc | apply pw_below_drewN | apply below_drew1) | exact HB.out)) hb); clear HB; have HB := n0_; clear n0_; (try clear hb); (try clear hb2); (try clear hk); (try clear hi)) | (go_at_call 53; (with_reducible refine (tag_Core.calls (⟨#[115, 101, 113]⟩ : ByteArray) true _ A14.out).mono ?_); rintro e w' ⟨rfl, ⟨nd, rfl⟩⟩) | (go_at_call 54; (with_reducible refine (tag_Right.calls (⟨#[33, 120, 45, 49]⟩ : ByteArray) false _ A16.out).mono ?_); rintro e w27 ⟨rfl, hb⟩; have n0_ := Aside0.mk (below_step (by repeat (first | (with_reducible first | exact HB.out | apply below_alloc | apply pw_below_drewN | apply below_drew1) | exact HB.out)) hb); clear HB; have HB := n0_; clear n0_; (try clear hb); (try clear hb2); (try clear hk); (try clear hi)))
                    go_ret
                    exact ⟨by first | rfl | (simp [errW_none, errW_some] <;> rfl) | (simp [*, errW_none, errW_some] <;> rfl), by repeat (first | (with_reducible first | exact HB.out | apply below_alloc | apply pw_below_drewN | apply below_drew1) | exact HB.out)⟩
                · replace c15 := Bool.eq_false_iff.mpr c15
                  subst c15
                  have H1 : (some false) = some r := by rw [if_neg (show ¬ (false = true) by decide)] at H; exact H
                  clear H
                  have H := H1
                  clear H1
                  obtain rfl := Option.some.inj H
                  go_enter Tryd.func14, Tryd.ntmps14
                  go_wp2_with (first | ((with_reducible refine gate_callee (f := 51) rfl ?_); refine goesL_ (some 6) rfl rfl Tryd.func51 (by kernel_rfl) rfl #[.string (⟨#[33, 33, 105, 110, 116]⟩ : ByteArray)] rfl (by (try simp only [List.map_toArray, List.map_cons, List.map_nil]); first | done | rfl | (simp only [List.length_drop, List.length_take]; rfl)) ?_; (with_reducible refine (tag_Read.calls (⟨#[33, 33, 105, 110, 116]⟩ : ByteArray) t141 t142 _ A1.out).mono ?_); rintro e w28 ⟨rfl, hb⟩; refine ⟨_, rfl, ?_⟩; have n0_ := Aside0.mk (below_step (by repeat (first | (with_reducible first | exact HB.out | apply below_alloc | apply pw_below_drewN | apply below_drew1) | exact HB.out)) hb); clear HB; have HB := n0_; clear n0_; (try clear hb); (try clear hb2); (try clear hk); (try clear hi)) | ((with_reducible refine gate_callee (f := 51) rfl ?_); refine goesL_ (some 10) rfl rfl Tryd.func51 (by kernel_rfl) rfl #[.string (⟨#[105, 110, 116]⟩ : ByteArray)] rfl (by (try simp only [List.map_toArray, List.map_cons, List.map_nil]); first | done | rfl | (simp only [List.length_drop, List.length_take]; rfl)) ?_; (with_reducible refine (tag_Read.calls (⟨#[105, 110, 116]⟩ : ByteArray) t143 t144 _ A2.out).mono ?_); rintro e w29 ⟨rfl, hb⟩; refine ⟨_, rfl, ?_⟩; have n0_ := Aside0.mk (below_step (by repeat (first | (with_reducible first | exact HB.out | apply below_alloc | apply pw_below_drewN | apply below_drew1) | exact HB.out)) hb); clear HB; have HB := n0_; clear n0_; (try clear hb); (try clear hb2); (try clear hk); (try clear hi)) | ((with_reducible refine gate_callee (f := 16) rfl ?_); refine goesL_ (some 13) rfl rfl Tryd.func16 (by kernel_rfl) rfl #[.string (⟨#[48, 120, 49, 70]⟩ : ByteArray)] rfl (by (try simp only [List.map_toArray, List.map_cons, List.map_nil]); first | done | rfl | (simp only [List.length_drop, List.length_take]; rfl)) ?_; (with_reducible refine (tag_Resolve.calls k (⟨#[48, 120, 49, 70]⟩ : ByteArray) t145 _ A3.out).mono ?_); rintro e w' ⟨rfl, ⟨nd, rfl⟩⟩; refine ⟨_, rfl, ?_⟩) | (go_at_call 16; (with_reducible refine (tag_Resolve.calls k (⟨#[49, 46]⟩ : ByteArray) t146 _ A5.out).mono ?_); rintro e w' ⟨rfl, ⟨nd, rfl⟩⟩) | (go_at_call 16; (with_reducible refine (tag_Resolve.calls k (⟨#[49, 46, 50, 46, 51]⟩ : ByteArray) t147 _ A7.out).mono ?_); rintro e w' ⟨rfl, ⟨nd, rfl⟩⟩) | (go_at_call 52; (with_reducible refine (tag_Word.calls (⟨#[33, 97]⟩ : ByteArray) t148 _ A9.out).mono ?_); rintro e w30 ⟨rfl, hb⟩; have n0_ := Aside0.mk (below_step (by repeat (first | (with_reducible first | exact HB.out | apply below_alloc | apply pw_below_drewN | apply below_drew1) | exact HB.out)) hb); clear HB; have HB := n0_; clear n0_; (try clear hb); (try clear hb2); (try clear hk); (try clear hi)) | (go_at_call 53; (with_reducible refine (tag_Core.calls (⟨#[115, 101, 113]⟩ : ByteArray) false _ A14.out).mono ?_); rintro e w' ⟨rfl, ⟨nd, rfl⟩⟩))
                  go_ret
                  exact ⟨by first | rfl | (simp [errW_none, errW_some] <;> rfl) | (simp [*, errW_none, errW_some] <;> rfl), by repeat (first | (with_reducible first | exact HB.out | apply below_alloc | apply pw_below_drewN | apply below_drew1) | exact HB.out)⟩
              · rw [if_neg c13] at H
                have c13b0 : (t144 == 14) = false := beq_eq_false_iff_ne.mpr c13
                have c13b1 : (t144 != 14) = true := bne_iff_ne.mpr c13
                obtain rfl := Option.some.inj H
                go_enter Tryd.func14, Tryd.ntmps14
                go_wp2_with (first | ((with_reducible refine gate_callee (f := 51) rfl ?_); refine goesL_ (some 6) rfl rfl Tryd.func51 (by kernel_rfl) rfl #[.string (⟨#[33, 33, 105, 110, 116]⟩ : ByteArray)] rfl (by (try simp only [List.map_toArray, List.map_cons, List.map_nil]); first | done | rfl | (simp only [List.length_drop, List.length_take]; rfl)) ?_; (with_reducible refine (tag_Read.calls (⟨#[33, 33, 105, 110, 116]⟩ : ByteArray) t141 t142 _ A1.out).mono ?_); rintro e w31 ⟨rfl, hb⟩; refine ⟨_, rfl, ?_⟩; have n0_ := Aside0.mk (below_step (by repeat (first | (with_reducible first | exact HB.out | apply below_alloc | apply pw_below_drewN | apply below_drew1) | exact HB.out)) hb); clear HB; have HB := n0_; clear n0_; (try clear hb); (try clear hb2); (try clear hk); (try clear hi)) | ((with_reducible refine gate_callee (f := 51) rfl ?_); refine goesL_ (some 10) rfl rfl Tryd.func51 (by kernel_rfl) rfl #[.string (⟨#[105, 110, 116]⟩ : ByteArray)] rfl (by (try simp only [List.map_toArray, List.map_cons, List.map_nil]); first | done | rfl | (simp only [List.length_drop, List.length_take]; rfl)) ?_; (with_reducible refine (tag_Read.calls (⟨#[105, 110, 116]⟩ : ByteArray) t143 t144 _ A2.out).mono ?_); rintro e w32 ⟨rfl, hb⟩; refine ⟨_, rfl, ?_⟩; have n0_ := Aside0.mk (below_step (by repeat (first | (with_reducible first | exact HB.out | apply below_alloc | apply pw_below_drewN | apply below_drew1) | exact HB.out)) hb); clear HB; have HB := n0_; clear n0_; (try clear hb); (try clear hb2); (try clear hk); (try clear hi)) | ((with_reducible refine gate_callee (f := 16) rfl ?_); refine goesL_ (some 13) rfl rfl Tryd.func16 (by kernel_rfl) rfl #[.string (⟨#[48, 120, 49, 70]⟩ : ByteArray)] rfl (by (try simp only [List.map_toArray, List.map_cons, List.map_nil]); first | done | rfl | (simp only [List.length_drop, List.length_take]; rfl)) ?_; (with_reducible refine (tag_Resolve.calls k (⟨#[48, 120, 49, 70]⟩ : ByteArray) t145 _ A3.out).mono ?_); rintro e w' ⟨rfl, ⟨nd, rfl⟩⟩; refine ⟨_, rfl, ?_⟩) | (go_at_call 16; (with_reducible refine (tag_Resolve.calls k (⟨#[49, 46]⟩ : ByteArray) t146 _ A5.out).mono ?_); rintro e w' ⟨rfl, ⟨nd, rfl⟩⟩) | (go_at_call 16; (with_reducible refine (tag_Resolve.calls k (⟨#[49, 46, 50, 46, 51]⟩ : ByteArray) t147 _ A7.out).mono ?_); rintro e w' ⟨rfl, ⟨nd, rfl⟩⟩) | (go_at_call 52; (with_reducible refine (tag_Word.calls (⟨#[33, 97]⟩ : ByteArray) t148 _ A9.out).mono ?_); rintro e w33 ⟨rfl, hb⟩; have n0_ := Aside0.mk (below_step (by repeat (first | (with_reducible first | exact HB.out | apply below_alloc | apply pw_below_drewN | apply below_drew1) | exact HB.out)) hb); clear HB; have HB := n0_; clear n0_; (try clear hb); (try clear hb2); (try clear hk); (try clear hi)))
                go_ret
                exact ⟨by first | rfl | (simp [errW_none, errW_some] <;> rfl) | (simp [*, errW_none, errW_some] <;> rfl), by repeat (first | (with_reducible first | exact HB.out | apply below_alloc | apply pw_below_drewN | apply below_drew1) | exact HB.out)⟩
            · rw [if_neg c12] at H
              have c12b0 : (t142 == 0) = false := beq_eq_false_iff_ne.mpr c12
              have c12b1 : (t142 != 0) = true := bne_iff_ne.mpr c12
              obtain rfl := Option.some.inj H
              go_enter Tryd.func14, Tryd.ntmps14
              go_wp2_with (first | ((with_reducible refine gate_callee (f := 51) rfl ?_); refine goesL_ (some 6) rfl rfl Tryd.func51 (by kernel_rfl) rfl #[.string (⟨#[33, 33, 105, 110, 116]⟩ : ByteArray)] rfl (by (try simp only [List.map_toArray, List.map_cons, List.map_nil]); first | done | rfl | (simp only [List.length_drop, List.length_take]; rfl)) ?_; (with_reducible refine (tag_Read.calls (⟨#[33, 33, 105, 110, 116]⟩ : ByteArray) t141 t142 _ A1.out).mono ?_); rintro e w34 ⟨rfl, hb⟩; refine ⟨_, rfl, ?_⟩; have n0_ := Aside0.mk (below_step (by repeat (first | (with_reducible first | exact HB.out | apply below_alloc | apply pw_below_drewN | apply below_drew1) | exact HB.out)) hb); clear HB; have HB := n0_; clear n0_; (try clear hb); (try clear hb2); (try clear hk); (try clear hi)) | ((with_reducible refine gate_callee (f := 51) rfl ?_); refine goesL_ (some 10) rfl rfl Tryd.func51 (by kernel_rfl) rfl #[.string (⟨#[105, 110, 116]⟩ : ByteArray)] rfl (by (try simp only [List.map_toArray, List.map_cons, List.map_nil]); first | done | rfl | (simp only [List.length_drop, List.length_take]; rfl)) ?_; (with_reducible refine (tag_Read.calls (⟨#[105, 110, 116]⟩ : ByteArray) t143 t144 _ A2.out).mono ?_); rintro e w35 ⟨rfl, hb⟩; refine ⟨_, rfl, ?_⟩; have n0_ := Aside0.mk (below_step (by repeat (first | (with_reducible first | exact HB.out | apply below_alloc | apply pw_below_drewN | apply below_drew1) | exact HB.out)) hb); clear HB; have HB := n0_; clear n0_; (try clear hb); (try clear hb2); (try clear hk); (try clear hi)) | ((with_reducible refine gate_callee (f := 16) rfl ?_); refine goesL_ (some 13) rfl rfl Tryd.func16 (by kernel_rfl) rfl #[.string (⟨#[48, 120, 49, 70]⟩ : ByteArray)] rfl (by (try simp only [List.map_toArray, List.map_cons, List.map_nil]); first | done | rfl | (simp only [List.length_drop, List.length_take]; rfl)) ?_; (with_reducible refine (tag_Resolve.calls k (⟨#[48, 120, 49, 70]⟩ : ByteArray) t145 _ A3.out).mono ?_); rintro e w' ⟨rfl, ⟨nd, rfl⟩⟩; refine ⟨_, rfl, ?_⟩) | (go_at_call 16; (with_reducible refine (tag_Resolve.calls k (⟨#[49, 46]⟩ : ByteArray) t146 _ A5.out).mono ?_); rintro e w' ⟨rfl, ⟨nd, rfl⟩⟩) | (go_at_call 16; (with_reducible refine (tag_Resolve.calls k (⟨#[49, 46, 50, 46, 51]⟩ : ByteArray) t147 _ A7.out).mono ?_); rintro e w' ⟨rfl, ⟨nd, rfl⟩⟩) | (go_at_call 52; (with_reducible refine (tag_Word.calls (⟨#[33, 97]⟩ : ByteArray) t148 _ A9.out).mono ?_); rintro e w36 ⟨rfl, hb⟩; have n0_ := Aside0.mk (below_step (by repeat (first | (with_reducible first | exact HB.out | apply below_alloc | apply pw_below_drewN | apply below_drew1) | exact HB.out)) hb); clear HB; have HB := n0_; clear n0_; (try clear hb); (try clear hb2); (try clear hk); (try clear hi)))
              go_ret
              exact ⟨by first | rfl | (simp [errW_none, errW_some] <;> rfl) | (simp [*, errW_none, errW_some] <;> rfl), by repeat (first | (with_reducible first | exact HB.out | apply below_alloc | apply pw_below_drewN | apply below_drew1) | exact HB.out)⟩
          · rw [if_neg c11] at H
            have c11b0 : (t141.toList == ([105, 110, 116] : List UInt8)) = false := beq_eq_false_iff_ne.mpr c11
            have c11b1 : (t141.toList != ([105, 110, 116] : List UInt8)) = true := bne_iff_ne.mpr c11
            obtain rfl := Option.some.inj H
            go_enter Tryd.func14, Tryd.ntmps14
            go_wp2_with (first | ((with_reducible refine gate_callee (f := 51) rfl ?_); refine goesL_ (some 6) rfl rfl Tryd.func51 (by kernel_rfl) rfl #[.string (⟨#[33, 33, 105, 110, 116]⟩ : ByteArray)] rfl (by (try simp only [List.map_toArray, List.map_cons, List.map_nil]); first | done | rfl | (simp only [List.length_drop, List.length_take]; rfl)) ?_; (with_reducible refine (tag_Read.calls (⟨#[33, 33, 105, 110, 116]⟩ : ByteArray) t141 t142 _ A1.out).mono ?_); rintro e w37 ⟨rfl, hb⟩; refine ⟨_, rfl, ?_⟩; have n0_ := Aside0.mk (below_step (by repeat (first | (with_reducible first | exact HB.out | apply below_alloc | apply pw_below_drewN | apply below_drew1) | exact HB.out)) hb); clear HB; have HB := n0_; clear n0_; (try clear hb); (try clear hb2); (try clear hk); (try clear hi)) | ((with_reducible refine gate_callee (f := 51) rfl ?_); refine goesL_ (some 10) rfl rfl Tryd.func51 (by kernel_rfl) rfl #[.string (⟨#[105, 110, 116]⟩ : ByteArray)] rfl (by (try simp only [List.map_toArray, List.map_cons, List.map_nil]); first | done | rfl | (simp only [List.length_drop, List.length_take]; rfl)) ?_; (with_reducible refine (tag_Read.calls (⟨#[105, 110, 116]⟩ : ByteArray) t143 t144 _ A2.out).mono ?_); rintro e w38 ⟨rfl, hb⟩; refine ⟨_, rfl, ?_⟩; have n0_ := Aside0.mk (below_step (by repeat (first | (with_reducible first | exact HB.out | apply below_alloc | apply pw_below_drewN | apply below_drew1) | exact HB.out)) hb); clear HB; have HB := n0_; clear n0_; (try clear hb); (try clear hb2); (try clear hk); (try clear hi)) | ((with_reducible refine gate_callee (f := 16) rfl ?_); refine goesL_ (some 13) rfl rfl Tryd.func16 (by kernel_rfl) rfl #[.string (⟨#[48, 120, 49, 70]⟩ : ByteArray)] rfl (by (try simp only [List.map_toArray, List.map_cons, List.map_nil]); first | done | rfl | (simp only [List.length_drop, List.length_take]; rfl)) ?_; (with_reducible refine (tag_Resolve.calls k (⟨#[48, 120, 49, 70]⟩ : ByteArray) t145 _ A3.out).mono ?_); rintro e w' ⟨rfl, ⟨nd, rfl⟩⟩; refine ⟨_, rfl, ?_⟩) | (go_at_call 16; (with_reducible refine (tag_Resolve.calls k (⟨#[49, 46]⟩ : ByteArray) t146 _ A5.out).mono ?_); rintro e w' ⟨rfl, ⟨nd, rfl⟩⟩) | (go_at_call 16; (with_reducible refine (tag_Resolve.calls k (⟨#[49, 46, 50, 46, 51]⟩ : ByteArray) t147 _ A7.out).mono ?_); rintro e w' ⟨rfl, ⟨nd, rfl⟩⟩) | (go_at_call 52; (with_reducible refine (tag_Word.calls (⟨#[33, 97]⟩ : ByteArray) t148 _ A9.out).mono ?_); rintro e w39 ⟨rfl, hb⟩; have n0_ := Aside0.mk (below_step (by repeat (first | (with_reducible first | exact HB.out | apply below_alloc | apply pw_below_drewN | apply below_drew1) | exact HB.out)) hb); clear HB; have HB := n0_; clear n0_; (try clear hb); (try clear hb2); (try clear hk); (try clear hi)))
            go_ret
            exact ⟨by first | rfl | (simp [errW_none, errW_some] <;> rfl) | (simp [*, errW_none, errW_some] <;> rfl), by repeat (first | (with_reducible first | exact HB.out | apply below_alloc | apply pw_below_drewN | apply below_drew1) | exact HB.out)⟩
        · rw [if_neg c10] at H
          have c10b0 : (t148.toList == ([33, 97] : List UInt8)) = false := beq_eq_false_iff_ne.mpr c10
          have c10b1 : (t148.toList != ([33, 97] : List UInt8)) = true := bne_iff_ne.mpr c10
          obtain rfl := Option.some.inj H
          go_enter Tryd.func14, Tryd.ntmps14
          go_wp2_with (first | ((with_reducible refine gate_callee (f := 51) rfl ?_); refine goesL_ (some 6) rfl rfl Tryd.func51 (by kernel_rfl) rfl #[.string (⟨#[33, 33, 105, 110, 116]⟩ : ByteArray)] rfl (by (try simp only [List.map_toArray, List.map_cons, List.map_nil]); first | done | rfl | (simp only [List.length_drop, List.length_take]; rfl)) ?_; (with_reducible refine (tag_Read.calls (⟨#[33, 33, 105, 110, 116]⟩ : ByteArray) t141 t142 _ A1.out).mono ?_); rintro e w40 ⟨rfl, hb⟩; refine ⟨_, rfl, ?_⟩; have n0_ := Aside0.mk (below_step (by repeat (first | (with_reducible first | exact HB.out | apply below_alloc | apply pw_below_drewN | apply below_drew1) | exact HB.out)) hb); clear HB; have HB := n0_; clear n0_; (try clear hb); (try clear hb2); (try clear hk); (try clear hi)) | ((with_reducible refine gate_callee (f := 51) rfl ?_); refine goesL_ (some 10) rfl rfl Tryd.func51 (by kernel_rfl) rfl #[.string (⟨#[105, 110, 116]⟩ : ByteArray)] rfl (by (try simp only [List.map_toArray, List.map_cons, List.map_nil]); first | done | rfl | (simp only [List.length_drop, List.length_take]; rfl)) ?_; (with_reducible refine (tag_Read.calls (⟨#[105, 110, 116]⟩ : ByteArray) t143 t144 _ A2.out).mono ?_); rintro e w41 ⟨rfl, hb⟩; refine ⟨_, rfl, ?_⟩; have n0_ := Aside0.mk (below_step (by repeat (first | (with_reducible first | exact HB.out | apply below_alloc | apply pw_below_drewN | apply below_drew1) | exact HB.out)) hb); clear HB; have HB := n0_; clear n0_; (try clear hb); (try clear hb2); (try clear hk); (try clear hi)) | ((with_reducible refine gate_callee (f := 16) rfl ?_); refine goesL_ (some 13) rfl rfl Tryd.func16 (by kernel_rfl) rfl #[.string (⟨#[48, 120, 49, 70]⟩ : ByteArray)] rfl (by (try simp only [List.map_toArray, List.map_cons, List.map_nil]); first | done | rfl | (simp only [List.length_drop, List.length_take]; rfl)) ?_; (with_reducible refine (tag_Resolve.calls k (⟨#[48, 120, 49, 70]⟩ : ByteArray) t145 _ A3.out).mono ?_); rintro e w' ⟨rfl, ⟨nd, rfl⟩⟩; refine ⟨_, rfl, ?_⟩) | (go_at_call 16; (with_reducible refine (tag_Resolve.calls k (⟨#[49, 46]⟩ : ByteArray) t146 _ A5.out).mono ?_); rintro e w' ⟨rfl, ⟨nd, rfl⟩⟩) | (go_at_call 16; (with_reducible refine (tag_Resolve.calls k (⟨#[49, 46, 50, 46, 51]⟩ : ByteArray) t147 _ A7.out).mono ?_); rintro e w' ⟨rfl, ⟨nd, rfl⟩⟩) | (go_at_call 52; (with_reducible refine (tag_Word.calls (⟨#[33, 97]⟩ : ByteArray) t148 _ A9.out).mono ?_); rintro e w42 ⟨rfl, hb⟩; have n0_ := Aside0.mk (below_step (by repeat (first | (with_reducible first | exact HB.out | apply below_alloc | apply pw_below_drewN | apply below_drew1) | exact HB.out)) hb); clear HB; have HB := n0_; clear n0_; (try clear hb); (try clear hb2); (try clear hk); (try clear hi)))
          go_ret
          exact ⟨by first | rfl | (simp [errW_none, errW_some] <;> rfl) | (simp [*, errW_none, errW_some] <;> rfl), by repeat (first | (with_reducible first | exact HB.out | apply below_alloc | apply pw_below_drewN | apply below_drew1) | exact HB.out)⟩
      · rw [if_neg c8] at H
        have c8b0 : (t147.toList == ([115, 116, 114] : List UInt8)) = false := beq_eq_false_iff_ne.mpr c8
        have c8b1 : (t147.toList != ([115, 116, 114] : List UInt8)) = true := bne_iff_ne.mpr c8
        obtain rfl := Option.some.inj H
        go_enter Tryd.func14, Tryd.ntmps14
        go_wp2_with (first | ((with_reducible refine gate_callee (f := 51) rfl ?_); refine goesL_ (some 6) rfl rfl Tryd.func51 (by kernel_rfl) rfl #[.string (⟨#[33, 33, 105, 110, 116]⟩ : ByteArray)] rfl (by (try simp only [List.map_toArray, List.map_cons, List.map_nil]); first | done | rfl | (simp only [List.length_drop, List.length_take]; rfl)) ?_; (with_reducible refine (tag_Read.calls (⟨#[33, 33, 105, 110, 116]⟩ : ByteArray) t141 t142 _ A1.out).mono ?_); rintro e w43 ⟨rfl, hb⟩; refine ⟨_, rfl, ?_⟩; have n0_ := Aside0.mk (below_step (by repeat (first | (with_reducible first | exact HB.out | apply below_alloc | apply pw_below_drewN | apply below_drew1) | exact HB.out)) hb); clear HB; have HB := n0_; clear n0_; (try clear hb); (try clear hb2); (try clear hk); (try clear hi)) | ((with_reducible refine gate_callee (f := 51) rfl ?_); refine goesL_ (some 10) rfl rfl Tryd.func51 (by kernel_rfl) rfl #[.string (⟨#[105, 110, 116]⟩ : ByteArray)] rfl (by (try simp only [List.map_toArray, List.map_cons, List.map_nil]); first | done | rfl | (simp only [List.length_drop, List.length_take]; rfl)) ?_; (with_reducible refine (tag_Read.calls (⟨#[105, 110, 116]⟩ : ByteArray) t143 t144 _ A2.out).mono ?_); rintro e w44 ⟨rfl, hb⟩; refine ⟨_, rfl, ?_⟩; have n0_ := Aside0.mk (below_step (by repeat (first | (with_reducible first | exact HB.out | apply below_alloc | apply pw_below_drewN | apply below_drew1) | exact HB.out)) hb); clear HB; have HB := n0_; clear n0_; (try clear hb); (try clear hb2); (try clear hk); (try clear hi)) | ((with_reducible refine gate_callee (f := 16) rfl ?_); refine goesL_ (some 13) rfl rfl Tryd.func16 (by kernel_rfl) rfl #[.string (⟨#[48, 120, 49, 70]⟩ : ByteArray)] rfl (by (try simp only [List.map_toArray, List.map_cons, List.map_nil]); first | done | rfl | (simp only [List.length_drop, List.length_take]; rfl)) ?_; (with_reducible refine (tag_Resolve.calls k (⟨#[48, 120, 49, 70]⟩ : ByteArray) t145 _ A3.out).mono ?_); rintro e w' ⟨rfl, ⟨nd, rfl⟩⟩; refine ⟨_, rfl, ?_⟩) | (go_at_call 16; (with_reducible refine (tag_Resolve.calls k (⟨#[49, 46]⟩ : ByteArray) t146 _ A5.out).mono ?_); rintro e w' ⟨rfl, ⟨nd, rfl⟩⟩) | (go_at_call 16; (with_reducible refine (tag_Resolve.calls k (⟨#[49, 46, 50, 46, 51]⟩ : ByteArray) t147 _ A7.out).mono ?_); rintro e w' ⟨rfl, ⟨nd, rfl⟩⟩))
        go_ret
        exact ⟨by first | rfl | (simp [errW_none, errW_some] <;> rfl) | (simp [*, errW_none, errW_some] <;> rfl), by repeat (first | (with_reducible first | exact HB.out | apply below_alloc | apply pw_below_drewN | apply below_drew1) | exact HB.out)⟩
    · rw [if_neg c6] at H
      have c6b0 : (t146.toList == ([102, 108, 111, 97, 116] : List UInt8)) = false := beq_eq_false_iff_ne.mpr c6
      have c6b1 : (t146.toList != ([102, 108, 111, 97, 116] : List UInt8)) = true := bne_iff_ne.mpr c6
      obtain rfl := Option.some.inj H
      go_enter Tryd.func14, Tryd.ntmps14
      go_wp2_with (first | ((with_reducible refine gate_callee (f := 51) rfl ?_); refine goesL_ (some 6) rfl rfl Tryd.func51 (by kernel_rfl) rfl #[.string (⟨#[33, 33, 105, 110, 116]⟩ : ByteArray)] rfl (by (try simp only [List.map_toArray, List.map_cons, List.map_nil]); first | done | rfl | (simp only [List.length_drop, List.length_take]; rfl)) ?_; (with_reducible refine (tag_Read.calls (⟨#[33, 33, 105, 110, 116]⟩ : ByteArray) t141 t142 _ A1.out).mono ?_); rintro e w45 ⟨rfl, hb⟩; refine ⟨_, rfl, ?_⟩; have n0_ := Aside0.mk (below_step (by repeat (first | (with_reducible first | exact HB.out | apply below_alloc | apply pw_below_drewN | apply below_drew1) | exact HB.out)) hb); clear HB; have HB := n0_; clear n0_; (try clear hb); (try clear hb2); (try clear hk); (try clear hi)) | ((with_reducible refine gate_callee (f := 51) rfl ?_); refine goesL_ (some 10) rfl rfl Tryd.func51 (by kernel_rfl) rfl #[.string (⟨#[105, 110, 116]⟩ : ByteArray)] rfl (by (try simp only [List.map_toArray, List.map_cons, List.map_nil]); first | done | rfl | (simp only [List.length_drop, List.length_take]; rfl)) ?_; (with_reducible refine (tag_Read.calls (⟨#[105, 110, 116]⟩ : ByteArray) t143 t144 _ A2.out).mono ?_); rintro e w46 ⟨rfl, hb⟩; refine ⟨_, rfl, ?_⟩; have n0_ := Aside0.mk (below_step (by repeat (first | (with_reducible first | exact HB.out | apply below_alloc | apply pw_below_drewN | apply below_drew1) | exact HB.out)) hb); clear HB; have HB := n0_; clear n0_; (try clear hb); (try clear hb2); (try clear hk); (try clear hi)) | ((with_reducible refine gate_callee (f := 16) rfl ?_); refine goesL_ (some 13) rfl rfl Tryd.func16 (by kernel_rfl) rfl #[.string (⟨#[48, 120, 49, 70]⟩ : ByteArray)] rfl (by (try simp only [List.map_toArray, List.map_cons, List.map_nil]); first | done | rfl | (simp only [List.length_drop, List.length_take]; rfl)) ?_; (with_reducible refine (tag_Resolve.calls k (⟨#[48, 120, 49, 70]⟩ : ByteArray) t145 _ A3.out).mono ?_); rintro e w' ⟨rfl, ⟨nd, rfl⟩⟩; refine ⟨_, rfl, ?_⟩) | (go_at_call 16; (with_reducible refine (tag_Resolve.calls k (⟨#[49, 46]⟩ : ByteArray) t146 _ A5.out).mono ?_); rintro e w' ⟨rfl, ⟨nd, rfl⟩⟩))
      go_ret
      exact ⟨by first | rfl | (simp [errW_none, errW_some] <;> rfl) | (simp [*, errW_none, errW_some] <;> rfl), by repeat (first | (with_reducible first | exact HB.out | apply below_alloc | apply pw_below_drewN | apply below_drew1) | exact HB.out)⟩
  · rw [if_neg c4] at H
    have c4b0 : (t145.toList == ([105, 110, 116] : List UInt8)) = false := beq_eq_false_iff_ne.mpr c4
    have c4b1 : (t145.toList != ([105, 110, 116] : List UInt8)) = true := bne_iff_ne.mpr c4
    obtain rfl := Option.some.inj H
    go_enter Tryd.func14, Tryd.ntmps14
    go_wp2_with (first | ((with_reducible refine gate_callee (f := 51) rfl ?_); refine goesL_ (some 6) rfl rfl Tryd.func51 (by kernel_rfl) rfl #[.string (⟨#[33, 33, 105, 110, 116]⟩ : ByteArray)] rfl (by (try simp only [List.map_toArray, List.map_cons, List.map_nil]); first | done | rfl | (simp only [List.length_drop, List.length_take]; rfl)) ?_; (with_reducible refine (tag_Read.calls (⟨#[33, 33, 105, 110, 116]⟩ : ByteArray) t141 t142 _ A1.out).mono ?_); rintro e w47 ⟨rfl, hb⟩; refine ⟨_, rfl, ?_⟩; have n0_ := Aside0.mk (below_step (by repeat (first | (with_reducible first | exact HB.out | apply below_alloc | apply pw_below_drewN | apply below_drew1) | exact HB.out)) hb); clear HB; have HB := n0_; clear n0_; (try clear hb); (try clear hb2); (try clear hk); (try clear hi)) | ((with_reducible refine gate_callee (f := 51) rfl ?_); refine goesL_ (some 10) rfl rfl Tryd.func51 (by kernel_rfl) rfl #[.string (⟨#[105, 110, 116]⟩ : ByteArray)] rfl (by (try simp only [List.map_toArray, List.map_cons, List.map_nil]); first | done | rfl | (simp only [List.length_drop, List.length_take]; rfl)) ?_; (with_reducible refine (tag_Read.calls (⟨#[105, 110, 116]⟩ : ByteArray) t143 t144 _ A2.out).mono ?_); rintro e w48 ⟨rfl, hb⟩; refine ⟨_, rfl, ?_⟩; have n0_ := Aside0.mk (below_step (by repeat (first | (with_reducible first | exact HB.out | apply below_alloc | apply pw_below_drewN | apply below_drew1) | exact HB.out)) hb); clear HB; have HB := n0_; clear n0_; (try clear hb); (try clear hb2); (try clear hk); (try clear hi)) | ((with_reducible refine gate_callee (f := 16) rfl ?_); refine goesL_ (some 13) rfl rfl Tryd.func16 (by kernel_rfl) rfl #[.string (⟨#[48, 120, 49, 70]⟩ : ByteArray)] rfl (by (try simp only [List.map_toArray, List.map_cons, List.map_nil]); first | done | rfl | (simp only [List.length_drop, List.length_take]; rfl)) ?_; (with_reducible refine (tag_Resolve.calls k (⟨#[48, 120, 49, 70]⟩ : ByteArray) t145 _ A3.out).mono ?_); rintro e w' ⟨rfl, ⟨nd, rfl⟩⟩; refine ⟨_, rfl, ?_⟩))
    go_ret
    exact ⟨by first | rfl | (simp [errW_none, errW_some] <;> rfl) | (simp [*, errW_none, errW_some] <;> rfl), by repeat (first | (with_reducible first | exact HB.out | apply below_alloc | apply pw_below_drewN | apply below_drew1) | exact HB.out)⟩
def strings_Trim.f (a0 : ByteArray) (a1 : ByteArray) : Option (ByteArray) := if 2 ≤ a1.size ∧ a1.size < 4294967281 ∧ 0 < a0.size ∧ a0.size ≤ 9223372036854775807 ∧ (a1.data.toList.all fun b => decide (b.toNat < 128)) = true then some ⟨(Lib.trimS a0.data.toList a1.data.toList).toArray⟩ else none
set_option maxRecDepth 100000 in
theorem strings_Trim.calls (a0 : ByteArray) (a1 : ByteArray) (r : ByteArray) (w : World) (h : strings_Trim.f a0 a1 = some r) :
    Calls Tryd.prog 15 #[.string a0, .string a1] w fun e w' => e = .returned (.string r) ∧ Below w.heap.size w w' := by
  unfold strings_Trim.f at h
  split at h
  · rename_i hc
    obtain ⟨h2, hcs, h0, hs, ha⟩ := hc
    obtain rfl := Option.some.inj h
    refine (Any.strings_Trim_set Tryd.layTrim (by intro w; exact Tryd.zeroValue96 w) (by kernel_rfl) a0 a1 w h2 h0 hs hcs (fun j b hb => ?_)).mono ?_
    · have hm : b ∈ a1.data.toList := List.mem_of_getElem? hb
      simpa using List.all_eq_true.1 ha b hm
    · rintro e w' ⟨rfl, q, rfl⟩
      exact ⟨rfl, pw_below_drewN (below_alloc (below_alloc (Below.refl _ _) _) _) _⟩
  · cases h
end Go.Proofs.YthgafcaoibfchaaDoor.X
end
section
namespace Go.Proofs.YthgafcaoibfchaaDoor.X
open Go.RowKit Go.Proofs.YthgafcaoibfchaaDoorW.PrintWords Go.Proofs.YthgafcaoibfchaaDoorW.PrintLast Go.Proofs.YthgafcaoibfchaaDoorW.PrintMore
attribute [local go_sem] max2_int min2_int max_two min_two max_three min_three max_four min_four
set_option linter.unusedVariables false
set_option linter.unusedSimpArgs false
def grillelaw03_TagSigns.j0 : Nat → ByteArray → Bool → Option (Bool)
  | 0, _, _ => none
  | k + 1, x0, x15 => if x15 = true then (some true) else ((tag_Resolve.f k x0).bind fun t154 => (if 1 + x0.size ≤ 9223372036854775807 then ((tag_Resolve.f k ((⟨#[45]⟩ : ByteArray) ++ x0)).bind fun t155 => (if t155.toList = t154.toList then ((tag_Resolve.f k ((⟨#[43]⟩ : ByteArray) ++ x0)).bind fun t156 => (if t156.toList = t154.toList then (if 2 + x0.size ≤ 9223372036854775807 then ((tag_Resolve.f k ((⟨#[43, 45]⟩ : ByteArray) ++ x0)).bind fun t157 => (if t157.toList = ([115, 116, 114] : List UInt8) then ((tag_Resolve.f k ((⟨#[32]⟩ : ByteArray) ++ x0)).bind fun t158 => (some (t158.toList == ([115, 116, 114] : List UInt8)))) else (some false))) else (none)) else (some false))) else (some false))) else (none)))
def grillelaw03_TagSigns.f (k : Nat) (a0 : ByteArray) : Option (Bool) := (grillelaw03_alive.f k).bind fun t152 => (if t152 = true then (if (a0.size : Int) > 400 then (some true) else (if a0.toList = ([] : List UInt8) then (grillelaw03_TagSigns.j0 k a0 true) else ((strings_Trim.f a0 (⟨#[48, 49, 50, 51, 52, 53, 54, 55, 56, 57, 46]⟩ : ByteArray)).bind fun t153 => (grillelaw03_TagSigns.j0 k a0 (t153.toList != ([] : List UInt8)))))) else (some false))
set_option maxHeartbeats 8000000 in
set_option maxRecDepth 100000 in
theorem grillelaw03_TagSigns.calls (k : Nat) (a0 : ByteArray) (r : Bool) (w : World) (h : grillelaw03_TagSigns.f k a0 = some r) :
    Calls Tryd.prog 3 #[.string a0] w fun e w' => e = .returned (.bool r) ∧ Below w.heap.size w w' := by
  have HB := Aside0.mk (Below.refl w.heap.size w)
  have H : ((grillelaw03_alive.f k).bind fun t152 => (if t152 = true then (if (a0.size : Int) > 400 then (some true) else (if a0.toList = ([] : List UInt8) then (grillelaw03_TagSigns.j0 k a0 true) else ((strings_Trim.f a0 (⟨#[48, 49, 50, 51, 52, 53, 54, 55, 56, 57, 46]⟩ : ByteArray)).bind fun t153 => (grillelaw03_TagSigns.j0 k a0 (t153.toList != ([] : List UInt8)))))) else (some false))) = some r := h
  clear h
  replace H := Option.bind_eq_some_iff.mp H
  obtain ⟨t152, A20, H⟩ := H
  replace H : (if t152 = true then (if (a0.size : Int) > 400 then (some true) else (if a0.toList = ([] : List UInt8) then (grillelaw03_TagSigns.j0 k a0 true) else ((strings_Trim.f a0 (⟨#[48, 49, 50, 51, 52, 53, 54, 55, 56, 57, 46]⟩ : ByteArray)).bind fun t153 => (grillelaw03_TagSigns.j0 k a0 (t153.toList != ([] : List UInt8)))))) else (some false)) = some r := H
  have A2 := Aside0.mk A20
  clear A20
  by_cases c3 : t152 = true
  · subst c3
    have H1 : (if (a0.size : Int) > 400 then (some true) else (if a0.toList = ([] : List UInt8) then (grillelaw03_TagSigns.j0 k a0 true) else ((strings_Trim.f a0 (⟨#[48, 49, 50, 51, 52, 53, 54, 55, 56, 57, 46]⟩ : ByteArray)).bind fun t153 => (grillelaw03_TagSigns.j0 k a0 (t153.toList != ([] : List UInt8)))))) = some r := by rw [if_pos rfl] at H; exact H
    clear H
    have H := H1
    clear H1
    by_cases c4 : (a0.size : Int) > 400
    · rw [if_pos c4] at H
      have c4b0 : decide (400 < (a0.size : Int)) = true := decide_eq_true c4
      have c4b1 : decide (400 < a0.size) = true := decide_eq_true (by omega)
      clear c4
      obtain rfl := Option.some.inj H
      go_enter Tryd.func3, Tryd.ntmps3
      go_wp2_with (first | ((with_reducible refine gate_callee (f := 14) rfl ?_); refine goesL_ (some 4) rfl rfl Tryd.func14 (by kernel_rfl) rfl #[] rfl (by (try simp only [List.map_toArray, List.map_cons, List.map_nil]); first | done | rfl | (simp only [List.length_drop, List.length_take]; rfl)) ?_; (with_reducible refine (grillelaw03_alive.calls k  true _ A2.out).mono ?_); rintro e w5 ⟨rfl, hb⟩; refine ⟨_, rfl, ?_⟩; have n0_ := Aside0.mk (below_step (by repeat (first | (with_reducible first | exact HB.out | apply below_alloc | apply pw_below_drewN | apply below_drew1) | exact HB.out)) hb); clear HB; have HB := n0_; clear n0_; (try clear hb); (try clear hb2); (try clear hk); (try clear hi)))
      go_ret
      exact ⟨by first | rfl | (simp [errW_none, errW_some] <;> rfl) | (simp [*, errW_none, errW_some] <;> rfl), by repeat (first | (with_reducible first | exact HB.out | apply below_alloc | apply pw_below_drewN | apply below_drew1) | exact HB.out)⟩
    · rw [if_neg c4] at H
      have c4b0 : decide (400 < (a0.size : Int)) = false := decide_eq_false c4
      have c4b1 : decide (400 < a0.size) = false := decide_eq_false (by omega)
      clear c4
      have HC6 := Aside0.mk H
      clear H
      go_enter Tryd.func3, Tryd.ntmps3
      go_upto_region 5 with (first | ((with_reducible refine gate_callee (f := 14) rfl ?_); refine goesL_ (some 4) rfl rfl Tryd.func14 (by kernel_rfl) rfl #[] rfl (by (try simp only [List.map_toArray, List.map_cons, List.map_nil]); first | done | rfl | (simp only [List.length_drop, List.length_take]; rfl)) ?_; (with_reducible refine (grillelaw03_alive.calls k  true _ A2.out).mono ?_); rintro e w7 ⟨rfl, hb⟩; refine ⟨_, rfl, ?_⟩; have n0_ := Aside0.mk (below_step (by repeat (first | (with_reducible first | exact HB.out | apply below_alloc | apply pw_below_drewN | apply below_drew1) | exact HB.out)) hb); clear HB; have HB := n0_; clear n0_; (try clear hb); (try clear hb2); (try clear hk); (try clear hi)))
      (try simp only [Act.put, List.setIfInBounds_toArray, List.set_cons_zero, List.set_cons_succ])
      go_cut [15] (fun v15 wc => ∃ (kq : Nat) (x15_5 : Bool), v15 = .bool x15_5 ∧ Aside0 (grillelaw03_TagSigns.j0 kq a0 x15_5 = some r) ∧ Aside0 (kq ≤ k) ∧ Aside0 (Below w.heap.size w wc))
      case first =>
        have H := HC6.out
        clear HC6
        by_cases c8 : a0.toList = ([] : List UInt8)
        · rw [if_pos c8] at H
          have c8b0 : (a0.toList == ([] : List UInt8)) = true := beq_iff_eq.mpr c8
          have c8b1 : (a0.toList != ([] : List UInt8)) = false := bne_eq_false_iff_eq.mpr c8
          clear c8
          (first | rw [c8b0] | (simp only [i64_w, i32_w]; rw [c8b0]) | skip)
          have H' := Aside0.mk H
          clear H
          go_wp2
          go_meet
          case rel => exact ⟨_, (true), (by first | rfl | (simp; done) | (simp [*]; done) | (simp [xbne_nil, xbeq_nil]; done)), H', ⟨by first | omega | exact Nat.le_refl _⟩, ⟨by repeat (first | (with_reducible first | exact HB.out | apply below_alloc | apply pw_below_drewN | apply below_drew1) | exact HB.out)⟩⟩
        · rw [if_neg c8] at H
          have c8b0 : (a0.toList == ([] : List UInt8)) = false := beq_eq_false_iff_ne.mpr c8
          have c8b1 : (a0.toList != ([] : List UInt8)) = true := bne_iff_ne.mpr c8
          (first | rw [c8b0] | (simp only [i64_w, i32_w]; rw [c8b0]) | skip)
          replace H := Option.bind_eq_some_iff.mp H
          obtain ⟨t153, A90, H⟩ := H
          replace H : (grillelaw03_TagSigns.j0 k a0 (t153.toList != ([] : List UInt8))) = some r := H
          have A9 := Aside0.mk A90
          clear A90
          have H' := Aside0.mk H
          clear H
          go_wp2_with (first | (go_at_call 15; (with_reducible refine (strings_Trim.calls a0 (⟨#[48, 49, 50, 51, 52, 53, 54, 55, 56, 57, 46]⟩ : ByteArray) t153 _ A9.out).mono ?_); rintro e w10 ⟨rfl, hb⟩; have n0_ := Aside0.mk (below_step (by repeat (first | (with_reducible first | exact HB.out | apply below_alloc | apply pw_below_drewN | apply below_drew1) | exact HB.out)) hb); clear HB; have HB := n0_; clear n0_; (try clear hb); (try clear hb2); (try clear hk); (try clear hi)))
          go_meet
          case rel => exact ⟨_, ((t153.toList != ([] : List UInt8))), (by first | rfl | (simp; done) | (simp [*]; done) | (simp [xbne_nil, xbeq_nil]; done)), H', ⟨by first | omega | exact Nat.le_refl _⟩, ⟨by repeat (first | (with_reducible first | exact HB.out | apply below_alloc | apply pw_below_drewN | apply below_drew1) | exact HB.out)⟩⟩
      case rest =>
        clear HC6
        try clear c1
        try clear p2
        try clear c3
        try clear c4
        try clear c4b0
        try clear c4b1
        try clear c8
        try clear c8b0
        try clear c8b1
        obtain ⟨kq, x15_5, rfl, HA, HJ5, HB⟩ := hcut
        cases kq with
        | zero => exact absurd HA.out (by simp [grillelaw03_TagSigns.j0])
        | succ kj5 =>
          have H := HA.out
          clear HA
          simp only [grillelaw03_TagSigns.j0] at H
          by_cases c11 : x15_5 = true
          · subst c11
            have H1 : (some true) = some r := by rw [if_pos rfl] at H; exact H
            clear H
            have H := H1
            clear H1
            obtain rfl := Option.some.inj H
            go_wp2
            go_ret
            exact ⟨by first | rfl | (simp [errW_none, errW_some] <;> rfl) | (simp [*, errW_none, errW_some] <;> rfl), by repeat (first | (with_reducible first | exact HB.out | apply below_alloc | apply pw_below_drewN | apply below_drew1) | exact HB.out)⟩
          · replace c11 := Bool.eq_false_iff.mpr c11
            subst c11
            have H1 : ((tag_Resolve.f kj5 a0).bind fun t154 => (if 1 + a0.size ≤ 9223372036854775807 then ((tag_Resolve.f kj5 ((⟨#[45]⟩ : ByteArray) ++ a0)).bind fun t155 => (if t155.toList = t154.toList then ((tag_Resolve.f kj5 ((⟨#[43]⟩ : ByteArray) ++ a0)).bind fun t156 => (if t156.toList = t154.toList then (if 2 + a0.size ≤ 9223372036854775807 then ((tag_Resolve.f kj5 ((⟨#[43, 45]⟩ : ByteArray) ++ a0)).bind fun t157 => (if t157.toList = ([115, 116, 114] : List UInt8) then ((tag_Resolve.f kj5 ((⟨#[32]⟩ : ByteArray) ++ a0)).bind fun t158 => (some (t158.toList == ([115, 116, 114] : List UInt8)))) else (some false))) else (none)) else (some false))) else (some false))) else (none))) = some r := by rw [if_neg (show ¬ (false = true) by decide)] at H; exact H
            clear H
            have H := H1
            clear H1
            replace H := Option.bind_eq_some_iff.mp H
            obtain ⟨t154, A120, H⟩ := H
            replace H : (if 1 + a0.size ≤ 9223372036854775807 then ((tag_Resolve.f kj5 ((⟨#[45]⟩ : ByteArray) ++ a0)).bind fun t155 => (if t155.toList = t154.toList then ((tag_Resolve.f kj5 ((⟨#[43]⟩ : ByteArray) ++ a0)).bind fun t156 => (if t156.toList = t154.toList then (if 2 + a0.size ≤ 9223372036854775807 then ((tag_Resolve.f kj5 ((⟨#[43, 45]⟩ : ByteArray) ++ a0)).bind fun t157 => (if t157.toList = ([115, 116, 114] : List UInt8) then ((tag_Resolve.f kj5 ((⟨#[32]⟩ : ByteArray) ++ a0)).bind fun t158 => (some (t158.toList == ([115, 116, 114] : List UInt8)))) else (some false))) else (none)) else (some false))) else (some false))) else (none)) = some r := H
            have A12 := Aside0.mk A120
            clear A120
            by_cases c13 : 1 + a0.size ≤ 9223372036854775807
            · rw [if_pos c13] at H
              have c13b0 := eq_true c13
              have c13b1 : decide (1 + a0.size ≤ 9223372036854775807) = true := decide_eq_true c13
              try have c13b2 : (9223372036854775807 < 1 + a0.size) = False := eq_false (Nat.not_lt.2 c13)
              replace H := Option.bind_eq_some_iff.mp H
              obtain ⟨t155, A140, H⟩ := H
              replace H : (if t155.toList = t154.toList then ((tag_Resolve.f kj5 ((⟨#[43]⟩ : ByteArray) ++ a0)).bind fun t156 => (if t156.toList = t154.toList then (if 2 + a0.size ≤ 9223372036854775807 then ((tag_Resolve.f kj5 ((⟨#[43, 45]⟩ : ByteArray) ++ a0)).bind fun t157 => (if t157.toList = ([115, 116, 114] : List UInt8) then ((tag_Resolve.f kj5 ((⟨#[32]⟩ : ByteArray) ++ a0)).bind fun t158 => (some (t158.toList == ([115, 116, 114] : List UInt8)))) else (some false))) else (none)) else (some false))) else (some false)) = some r := H
              have A14 := Aside0.mk A140
              clear A140
              by_cases c15 : t155.toList = t154.toList
              · rw [if_pos c15] at H
                have c15b0 : (t155.toList == t154.toList) = true := beq_iff_eq.mpr c15
                have c15b1 : (t155.toList != t154.toList) = false := bne_eq_false_iff_eq.mpr c15
                clear c15
                replace H := Option.bind_eq_some_iff.mp H
                obtain ⟨t156, A160, H⟩ := H
                replace H : (if t156.toList = t154.toList then (if 2 + a0.size ≤ 9223372036854775807 then ((tag_Resolve.f kj5 ((⟨#[43, 45]⟩ : ByteArray) ++ a0)).bind fun t157 => (if t157.toList = ([115, 116, 114] : List UInt8) then ((tag_Resolve.f kj5 ((⟨#[32]⟩ : ByteArray) ++ a0)).bind fun t158 => (some (t158.toList == ([115, 116, 114] : List UInt8)))) else (some false))) else (none)) else (some false)) = some r := H
                have A16 := Aside0.mk A160
                clear A160
                by_cases c17 : t156.toList = t154.toList
                · rw [if_pos c17] at H
                  have c17b0 : (t156.toList == t154.toList) = true := beq_iff_eq.mpr c17
                  have c17b1 : (t156.toList != t154.toList) = false := bne_eq_false_iff_eq.mpr c17
                  clear c17
                  by_cases c18 : 2 + a0.size ≤ 9223372036854775807
                  · rw [if_pos c18] at H
                    have c18b0 := eq_true c18
                    have c18b1 : decide (2 + a0.size ≤ 9223372036854775807) = true := decide_eq_true c18
                    try have c18b2 : (9223372036854775807 < 2 + a0.size) = False := eq_false (Nat.not_lt.2 c18)
                    replace H := Option.bind_eq_some_iff.mp H
                    obtain ⟨t157, A190, H⟩ := H
                    replace H : (if t157.toList = ([115, 116, 114] : List UInt8) then ((tag_Resolve.f kj5 ((⟨#[32]⟩ : ByteArray) ++ a0)).bind fun t158 => (some (t158.toList == ([115, 116, 114] : List UInt8)))) else (some false)) = some r := H
                    have A19 := Aside0.mk A190
                    clear A190
                    by_cases c20 : t157.toList = ([115, 116, 114] : List UInt8)
                    · rw [if_pos c20] at H
                      have c20b0 : (t157.toList == ([115, 116, 114] : List UInt8)) = true := beq_iff_eq.mpr c20
                      have c20b1 : (t157.toList != ([115, 116, 114] : List UInt8)) = false := bne_eq_false_iff_eq.mpr c20
                      clear c20
                      replace H := Option.bind_eq_some_iff.mp H
                      obtain ⟨t158, A210, H⟩ := H
                      replace H : (some (t158.toList == ([115, 116, 114] : List UInt8))) = some r := H
                      have A21 := Aside0.mk A210
                      clear A210
                      obtain rfl := Option.some.inj H
                      go_wp2_with (first | ((with_reducible refine gate_callee (f := 16) rfl ?_); refine goesL_ (some 17) rfl rfl Tryd.func16 (by kernel_rfl) rfl #[.string a0] rfl (by (try simp only [List.map_toArray, List.map_cons, List.map_nil]); first | done | rfl | (simp only [List.length_drop, List.length_take]; rfl)) ?_; (with_reducible refine (tag_Resolve.calls kj5 a0 t154 _ A12.out).mono ?_); rintro e w' ⟨rfl, ⟨nd, rfl⟩⟩; refine ⟨_, rfl, ?_⟩) | ((with_reducible refine gate_callee (f := 16) rfl ?_); refine goesL_ (some 20) rfl rfl Tryd.func16 (by kernel_rfl) rfl #[.string ((⟨#[45]⟩ : ByteArray) ++ a0)] rfl (by (try simp only [List.map_toArray, List.map_cons, List.map_nil]); first | done | rfl | (simp only [List.length_drop, List.length_take]; rfl)) ?_; (with_reducible refine (tag_Resolve.calls kj5 ((⟨#[45]⟩ : ByteArray) ++ a0) t155 _ A14.out).mono ?_); rintro e w' ⟨rfl, ⟨nd, rfl⟩⟩; refine ⟨_, rfl, ?_⟩) | (go_at_call 16; (with_reducible refine (tag_Resolve.calls kj5 ((⟨#[43]⟩ : ByteArray) ++ a0) t156 _ A16.out).mono ?_); rintro e w' ⟨rfl, ⟨nd, rfl⟩⟩) | (go_at_call 16; (with_reducible refine (tag_Resolve.calls kj5 ((⟨#[43, 45]⟩ : ByteArray) ++ a0) t157 _ A19.out).mono ?_); rintro e w' ⟨rfl, ⟨nd, rfl⟩⟩) | (go_at_call 16; (with_reducible refine (tag_Resolve.calls kj5 ((⟨#[32]⟩ : ByteArray) ++ a0) t158 _ A21.out).mono ?_); rintro e w' ⟨rfl, ⟨nd, rfl⟩⟩))
                      go_ret
                      exact ⟨by first | rfl | (simp [errW_none, errW_some] <;> rfl) | (simp [*, errW_none, errW_some] <;> rfl), by repeat (first | (with_reducible first | exact HB.out | apply below_alloc | apply pw_below_drewN | apply below_drew1) | exact HB.out)⟩
                    · rw [if_neg c20] at H
                      have c20b0 : (t157.toList == ([115, 116, 114] : List UInt8)) = false := beq_eq_false_iff_ne.mpr c20
                      have c20b1 : (t157.toList != ([115, 116, 114] : List UInt8)) = true := bne_iff_ne.mpr c20
                      obtain rfl := Option.some.inj H
                      go_wp2_with (first | ((with_reducible refine gate_callee (f := 16) rfl ?_); refine goesL_ (some 17) rfl rfl Tryd.func16 (by kernel_rfl) rfl #[.string a0] rfl (by (try simp only [List.map_toArray, List.map_cons, List.map_nil]); first | done | rfl | (simp only [List.length_drop, List.length_take]; rfl)) ?_; (with_reducible refine (tag_Resolve.calls kj5 a0 t154 _ A12.out).mono ?_); rintro e w' ⟨rfl, ⟨nd, rfl⟩⟩; refine ⟨_, rfl, ?_⟩) | ((with_reducible refine gate_callee (f := 16) rfl ?_); refine goesL_ (some 20) rfl rfl Tryd.func16 (by kernel_rfl) rfl #[.string ((⟨#[45]⟩ : ByteArray) ++ a0)] rfl (by (try simp only [List.map_toArray, List.map_cons, List.map_nil]); first | done | rfl | (simp only [List.length_drop, List.length_take]; rfl)) ?_; (with_reducible refine (tag_Resolve.calls kj5 ((⟨#[45]⟩ : ByteArray) ++ a0) t155 _ A14.out).mono ?_); rintro e w' ⟨rfl, ⟨nd, rfl⟩⟩; refine ⟨_, rfl, ?_⟩) | (go_at_call 16; (with_reducible refine (tag_Resolve.calls kj5 ((⟨#[43]⟩ : ByteArray) ++ a0) t156 _ A16.out).mono ?_); rintro e w' ⟨rfl, ⟨nd, rfl⟩⟩) | (go_at_call 16; (with_reducible refine (tag_Resolve.calls kj5 ((⟨#[43, 45]⟩ : ByteArray) ++ a0) t157 _ A19.out).mono ?_); rintro e w' ⟨rfl, ⟨nd, rfl⟩⟩))
                      go_ret
                      exact ⟨by first | rfl | (simp [errW_none, errW_some] <;> rfl) | (simp [*, errW_none, errW_some] <;> rfl), by repeat (first | (with_reducible first | exact HB.out | apply below_alloc | apply pw_below_drewN | apply below_drew1) | exact HB.out)⟩
                  · rw [if_neg c18] at H
                    exact absurd H (by simp)
                · rw [if_neg c17] at H
                  have c17b0 : (t156.toList == t154.toList) = false := beq_eq_false_iff_ne.mpr c17
                  have c17b1 : (t156.toList != t154.toList) = true := bne_iff_ne.mpr c17
                  obtain rfl := Option.some.inj H
                  go_wp2_with (first | ((with_reducible refine gate_callee (f := 16) rfl ?_); refine goesL_ (some 17) rfl rfl Tryd.func16 (by kernel_rfl) rfl #[.string a0] rfl (by (try simp only [List.map_toArray, List.map_cons, List.map_nil]); first | done | rfl | (simp only [List.length_drop, List.length_take]; rfl)) ?_; (with_reducible refine (tag_Resolve.calls kj5 a0 t154 _ A12.out).mono ?_); rintro e w' ⟨rfl, ⟨nd, rfl⟩⟩; refine ⟨_, rfl, ?_⟩) | ((with_reducible refine gate_callee (f := 16) rfl ?_); refine goesL_ (some 20) rfl rfl Tryd.func16 (by kernel_rfl) rfl #[.string ((⟨#[45]⟩ : ByteArray) ++ a0)] rfl (by (try simp only [List.map_toArray, List.map_cons, List.map_nil]); first | done | rfl | (simp only [List.length_drop, List.length_take]; rfl)) ?_; (with_reducible refine (tag_Resolve.calls kj5 ((⟨#[45]⟩ : ByteArray) ++ a0) t155 _ A14.out).mono ?_); rintro e w' ⟨rfl, ⟨nd, rfl⟩⟩; refine ⟨_, rfl, ?_⟩) | (go_at_call 16; (with_reducible refine (tag_Resolve.calls kj5 ((⟨#[43]⟩ : ByteArray) ++ a0) t156 _ A16.out).mono ?_); rintro e w' ⟨rfl, ⟨nd, rfl⟩⟩))
                  go_ret
                  exact ⟨by first | rfl | (simp [errW_none, errW_some] <;> rfl) | (simp [*, errW_none, errW_some] <;> rfl), by repeat (first | (with_reducible first | exact HB.out | apply below_alloc | apply pw_below_drewN | apply below_drew1) | exact HB.out)⟩
              · rw [if_neg c15] at H
                have c15b0 : (t155.toList == t154.toList) = false := beq_eq_false_iff_ne.mpr c15
                have c15b1 : (t155.toList != t154.toList) = true := bne_iff_ne.mpr c15
                obtain rfl := Option.some.inj H
                go_wp2_with (first | ((with_reducible refine gate_callee (f := 16) rfl ?_); refine goesL_ (some 17) rfl rfl Tryd.func16 (by kernel_rfl) rfl #[.string a0] rfl (by (try simp only [List.map_toArray, List.map_cons, List.map_nil]); first | done | rfl | (simp only [List.length_drop, List.length_take]; rfl)) ?_; (with_reducible refine (tag_Resolve.calls kj5 a0 t154 _ A12.out).mono ?_); rintro e w' ⟨rfl, ⟨nd, rfl⟩⟩; refine ⟨_, rfl, ?_⟩) | ((with_reducible refine gate_callee (f := 16) rfl ?_); refine goesL_ (some 20) rfl rfl Tryd.func16 (by kernel_rfl) rfl #[.string ((⟨#[45]⟩ : ByteArray) ++ a0)] rfl (by (try simp only [List.map_toArray, List.map_cons, List.map_nil]); first | done | rfl | (simp only [List.length_drop, List.length_take]; rfl)) ?_; (with_reducible refine (tag_Resolve.calls kj5 ((⟨#[45]⟩ : ByteArray) ++ a0) t155 _ A14.out).mono ?_); rintro e w' ⟨rfl, ⟨nd, rfl⟩⟩; refine ⟨_, rfl, ?_⟩))
                go_ret
                exact ⟨by first | rfl | (simp [errW_none, errW_some] <;> rfl) | (simp [*, errW_none, errW_some] <;> rfl), by repeat (first | (with_reducible first | exact HB.out | apply below_alloc | apply pw_below_drewN | apply below_drew1) | exact HB.out)⟩
            · rw [if_neg c13] at H
              exact absurd H (by simp)
  · replace c3 := Bool.eq_false_iff.mpr c3
    subst c3
    have H1 : (some false) = some r := by rw [if_neg (show ¬ (false = true) by decide)] at H; exact H
    clear H
    have H := H1
    clear H1
    obtain rfl := Option.some.inj H
    go_enter Tryd.func3, Tryd.ntmps3
    go_wp2_with (first | ((with_reducible refine gate_callee (f := 14) rfl ?_); refine goesL_ (some 4) rfl rfl Tryd.func14 (by kernel_rfl) rfl #[] rfl (by (try simp only [List.map_toArray, List.map_cons, List.map_nil]); first | done | rfl | (simp only [List.length_drop, List.length_take]; rfl)) ?_; (with_reducible refine (grillelaw03_alive.calls k  false _ A2.out).mono ?_); rintro e w22 ⟨rfl, hb⟩; refine ⟨_, rfl, ?_⟩; have n0_ := Aside0.mk (below_step (by repeat (first | (with_reducible first | exact HB.out | apply below_alloc | apply pw_below_drewN | apply below_drew1) | exact HB.out)) hb); clear HB; have HB := n0_; clear n0_; (try clear hb); (try clear hb2); (try clear hk); (try clear hi)))
    go_ret
    exact ⟨by first | rfl | (simp [errW_none, errW_some] <;> rfl) | (simp [*, errW_none, errW_some] <;> rfl), by repeat (first | (with_reducible first | exact HB.out | apply below_alloc | apply pw_below_drewN | apply below_drew1) | exact HB.out)⟩
def grillelaw03_TagSigns.Pure : Prop := ∀ (a0 : ByteArray), a0.size ≤ 140737488351232 → ∃ k, grillelaw03_TagSigns.f k a0 = some true
theorem grillelaw03_TagSigns.walk (P : grillelaw03_TagSigns.Pure) (a0 : ByteArray) (w : World) (w0 : a0.size ≤ 140737488351232) :
    Calls Tryd.prog 3 #[.string a0] w fun e w' => e = .returned (.bool true) ∧ Below w.heap.size w w' := by
  obtain ⟨k, h⟩ := P a0 w0
  refine (grillelaw03_TagSigns.calls k a0 true w h).mono ?_
  rintro e w' ⟨rfl, hd⟩
  exact ⟨rfl, hd⟩
end Go.Proofs.YthgafcaoibfchaaDoor.X
end
section
namespace Go.Proofs.YthgafcaoibfchaaDoor.Bytes
open Go.RowKit Go.Proofs.YthgafcaoibfchaaDoorW.PrintWords
theorem lit (s : ByteArray) : ∃ l : List UInt8, s = ⟨l.toArray⟩ := ⟨s.data.toList, by cases s; simp⟩
theorem toList_mk (l : List UInt8) : (ByteArray.mk l.toArray).toList = l := by rw [ByteArray.toList_eq]
theorem size_mk (l : List UInt8) : (ByteArray.mk l.toArray).size = l.length := by simp [ByteArray.size]
theorem extract_mk (l : List UInt8) (a b : Nat) : (ByteArray.mk l.toArray).extract a b = ⟨((l.drop a).take (b - a)).toArray⟩ := by
  have h := Lib.extract_data ⟨l.toArray⟩ a b
  cases hx : (ByteArray.mk l.toArray).extract a b with
  | mk d => rw [hx] at h; have h2 : d.toList = (l.drop a).take (b - a) := h; rw [← h2]
theorem extract_all (l : List UInt8) (a : Nat) : (ByteArray.mk l.toArray).extract a l.length = ⟨(l.drop a).toArray⟩ := by
  rw [extract_mk, List.take_of_length_le (by rw [List.length_drop]; exact Nat.le_refl _)]
theorem append_mk (a b : List UInt8) : ByteArray.mk a.toArray ++ ByteArray.mk b.toArray = ⟨(a ++ b).toArray⟩ := by
  have h : (ByteArray.mk a.toArray ++ ByteArray.mk b.toArray).data = (a ++ b).toArray := by rw [ByteArray.data_append]; simp
  cases hx : ByteArray.mk a.toArray ++ ByteArray.mk b.toArray with
  | mk d => rw [hx] at h; rw [show d = (a ++ b).toArray from h]
theorem bt_mk (l : List UInt8) (i : Int) : bt ⟨l.toArray⟩ i = ((l.getD i.toNat 0).toNat : Int) := by
  unfold bt
  split
  · rename_i h
    have h' : i.toNat < l.length := by rw [size_mk] at h; exact h
    rw [List.getD_eq_getElem?_getD, List.getElem?_eq_getElem h']
    rfl
  · rename_i h
    have h' : l.length ≤ i.toNat := by rw [size_mk] at h; omega
    rw [List.getD_eq_getElem?_getD, List.getElem?_eq_none h']
    rfl
theorem bt_nat (l : List UInt8) (n : Nat) (h : n < l.length) : bt ⟨l.toArray⟩ (n : Int) = (l[n].toNat : Int) := by
  rw [bt_mk, Int.toNat_natCast, List.getD_eq_getElem?_getD, List.getElem?_eq_getElem h]; rfl
theorem wrap64_nat (n : Nat) (h : n ≤ 140737488351232) : wrap64 ((n : Int) + 1) = ((n + 1 : Nat) : Int) := by unfold wrap64; omega
theorem all_u8 {p : UInt8 → Prop} (h : ∀ n : Fin 256, p (UInt8.ofFin n)) (c : UInt8) : p c := by
  have := h c.toFin; simpa using this
theorem toNat_inj {a b : UInt8} : ((a.toNat : Int) = (b.toNat : Int)) ↔ a = b := by
  constructor
  · intro h; apply UInt8.toNat_inj.mp; omega
  · intro h; rw [h]
end Go.Proofs.YthgafcaoibfchaaDoor.Bytes
end
section
namespace Go.Proofs.YthgafcaoibfchaaDoor.Plain
open Go.Proofs.YthgafcaoibfchaaDoor.Bytes
def val (c : UInt8) : Int := if 97 ≤ c.toNat ∧ c.toNat ≤ 102 then c.toNat - 87 else if 65 ≤ c.toNat ∧ c.toNat ≤ 70 then c.toNat - 55 else if 48 ≤ c.toNat ∧ c.toNat ≤ 57 then c.toNat - 48 else 16
def dig (b : Int) (c : UInt8) : Bool := decide (val c < b)
def sgn (l : List UInt8) : List UInt8 := match l with
  | [] => []
  | c :: t => if c = 43 ∨ c = 45 then t else c :: t
def only (l of : List UInt8) : Bool := l.all of.contains && !l.isEmpty
def alld (b : Int) (l : List UInt8) : Bool := l.all (dig b) && !l.isEmpty
def pre (p l : List UInt8) : Bool := p.isPrefixOf l
def whole (l : List UInt8) : Bool := if pre [48, 111] l then alld 8 (l.drop 2) else if pre [48, 120] l then alld 16 (l.drop 2) else alld 10 (sgn l)
def isE (c : UInt8) : Bool := c == 101 || c == 69
def tail2 (many : Nat) (r : List UInt8) : Bool := if many = 0 then false else match r with
  | [] => true
  | c :: u => isE c && alld 10 (sgn u)
def real (l : List UInt8) : Bool :=
  let t := sgn l
  let a := t.takeWhile (dig 10)
  match t.dropWhile (dig 10) with
  | [] => tail2 a.length []
  | c :: u => if c = 46 then tail2 (a.length + (u.takeWhile (dig 10)).length) (u.dropWhile (dig 10)) else tail2 a.length (c :: u)
theorem split_at (p : UInt8 → Bool) (l : List UInt8) : l = l.takeWhile p ++ l.dropWhile p ∧ (∀ c ∈ l.takeWhile p, p c = true) ∧ ∀ c u, l.dropWhile p = c :: u → p c = false := by
  refine ⟨(List.takeWhile_append_dropWhile).symm, ?_, ?_⟩
  · intro c hc; induction l with
    | nil => simp at hc
    | cons a t ih =>
      rw [List.takeWhile_cons] at hc
      split at hc
      · rcases List.mem_cons.mp hc with rfl | h
        · assumption
        · exact ih h
      · simp at hc
  · intro c u h; induction l with
    | nil => simp at h
    | cons a t ih =>
      rw [List.dropWhile_cons] at h
      split at h
      · exact ih h
      · rename_i hn; injection h with h1 h2; subst h1; exact Bool.eq_false_iff.mpr hn
end Go.Proofs.YthgafcaoibfchaaDoor.Plain
end
section
set_option linter.unusedSimpArgs false
namespace Go.Proofs.YthgafcaoibfchaaDoor.Impl
open Go.RowKit Go.Proofs.YthgafcaoibfchaaDoor.X Go.Proofs.YthgafcaoibfchaaDoorW.PrintWords Go.Proofs.YthgafcaoibfchaaDoorW.PrintLast
open Go.Proofs.YthgafcaoibfchaaDoor.Bytes Go.Proofs.YthgafcaoibfchaaDoor.Plain
abbrev ba (l : List UInt8) : ByteArray := ⟨l.toArray⟩
theorem ofNat_int (c : UInt8) (n : Nat) (h : n < 256) : ((c.toNat : Int) = (n : Int)) ↔ c = UInt8.ofNat n := by
  constructor
  · intro e; apply UInt8.toNat_inj.mp; rw [UInt8.toNat_ofNat']; omega
  · intro e; rw [e, UInt8.toNat_ofNat']; omega
theorem bt_zero (c : UInt8) (t : List UInt8) : bt (ba (c :: t)) 0 = (c.toNat : Int) := bt_mk _ _
theorem sign_eq (l : List UInt8) : tag_sign.f (ba l) = some (ba (sgn l)) := by
  unfold tag_sign.f
  rw [toList_mk]
  cases l with
  | nil => rfl
  | cons c t =>
    have h43 : ((c.toNat : Int) = 43) ↔ c = 43 := ofNat_int c 43 (by decide)
    have h45 : ((c.toNat : Int) = 45) ↔ c = 45 := ofNat_int c 45 (by decide)
    have he : (ba (c :: t)).extract 1 (c :: t).length = ba t := extract_all _ _
    have p0 : (0 : Int) < ((c :: t).length : Int) := by simp only [List.length_cons]; omega
    have p1 : (1 : Int) ≤ ((c :: t).length : Int) := by simp only [List.length_cons]; omega
    rw [if_neg (by simp), size_mk, if_pos p0, bt_zero, he, if_pos p1]
    unfold sgn
    simp only [h43, h45]
    by_cases h1 : c = 43
    · simp [h1]
    · by_cases h2 : c = 45 <;> simp [h1, h2]
theorem pre_take (p l : List UInt8) : pre p l = (l.take p.length == p) := by
  unfold pre
  rw [Bool.eq_iff_iff, List.isPrefixOf_iff_prefix, List.prefix_iff_eq_take, beq_iff_eq]
  exact ⟨fun h => h.symm, fun h => h.symm⟩
theorem has_eq (l p : List UInt8) : stringslite_HasPrefix.f (ba l) (ba p) = some (pre p l) := by
  unfold stringslite_HasPrefix.f
  simp only [size_mk]
  by_cases h : p.length ≤ l.length
  · rw [if_pos (by omega), if_pos (by omega), if_pos (by omega), extract_mk, toList_mk, toList_mk, pre_take]
    simp
  · rw [if_neg (by omega)]
    have : pre p l = false := by
      rw [pre_take, beq_eq_false_iff_ne]; intro e
      have := congrArg List.length e; rw [List.length_take] at this; omega
    rw [this]
theorem pre_le {p l : List UInt8} (h : pre p l = true) : p.length ≤ l.length := by
  unfold pre at h; exact (List.isPrefixOf_iff_prefix.mp h).length_le
theorem cut_eq (l p : List UInt8) : strings_CutPrefix.f (ba l) (ba p) = some (if pre p l then (ba (l.drop p.length), true) else (ba l, false)) := by
  unfold strings_CutPrefix.f stringslite_CutPrefix.f
  rw [has_eq]
  simp only [Option.bind_some, size_mk]
  by_cases h : pre p l = true
  · have := pre_le h
    rw [if_pos h, if_pos (by omega), if_pos (by omega), if_pos h, Int.toNat_natCast, extract_all]
    rfl
  · rw [if_neg h, if_neg h]; rfl
theorem value_eq (c : UInt8) (k : Nat) (hk : 2 ≤ k) : tag_value.f k (c.toNat : Int) = some (val c) :=
  at_rounds (g := fun k => tag_value.f k (c.toNat : Int)) (fun k => tag_value.mono _ k) hk (all_u8 (p := fun c => tag_value.f 2 (c.toNat : Int) = some (val c)) (by decide +kernel) c)
theorem digits_loop (l : List UInt8) (b : Int) (hl : l.length ≤ 140737488351232) (d : Nat) : ∀ (k n : Nat), n ≤ l.length → l.length - n = d → d + 3 ≤ k →
    tag_digits.l0 k (ba l) b (n : Int) = some (ba ((l.drop n).dropWhile (dig b)), ((n + ((l.drop n).takeWhile (dig b)).length : Nat) : Int)) := by
  induction d with
  | zero =>
    intro k n hn hd hk
    obtain ⟨k, rfl⟩ : ∃ m, k = m + 1 := ⟨k - 1, by omega⟩
    have hnl : n = l.length := by omega
    simp only [tag_digits.l0]
    rw [size_mk, if_neg (by omega), if_pos (by omega), if_pos (by omega), Int.toNat_natCast, extract_all, hnl, List.drop_length]
    simp
  | succ d ih =>
    intro k n hn hd hk
    obtain ⟨k, rfl⟩ : ∃ m, k = m + 1 := ⟨k - 1, by omega⟩
    have hlt : n < l.length := by omega
    simp only [tag_digits.l0]
    rw [size_mk, if_pos (by omega), if_pos (by omega), bt_nat l n hlt, value_eq _ _ (by omega)]
    simp only [Option.bind_some]
    rw [List.drop_eq_getElem_cons hlt, List.takeWhile_cons, List.dropWhile_cons]
    by_cases hv : val l[n] < b
    · have hd' : dig b l[n] = true := by unfold dig; simpa using hv
      rw [if_pos hv, wrap64_nat n (by omega), ih k (n + 1) (by omega) (by omega) (by omega), if_pos hd', if_pos hd', List.length_cons]
      congr 2; omega
    · have hd' : ¬ dig b l[n] = true := by unfold dig; simpa using hv
      rw [if_neg hv, if_pos (by omega), if_neg hd', if_neg hd', Int.toNat_natCast, extract_all, List.drop_eq_getElem_cons hlt]
      simp
theorem digits_eq (l : List UInt8) (b : Int) (k : Nat) (hl : l.length ≤ 450) (hk : 20000 ≤ k) :
    tag_digits.f k (ba l) b = some (ba (l.dropWhile (dig b)), ((l.takeWhile (dig b)).length : Int)) := by
  have := digits_loop l b (by omega) l.length k 0 (by omega) (by omega) (by omega)
  simpa [tag_digits.f] using this
theorem drop_nil (p : UInt8 → Bool) (l : List UInt8) : (l.dropWhile p = []) ↔ l.all p = true := by
  induction l with
  | nil => simp
  | cons c t ih =>
    rw [List.dropWhile_cons, List.all_cons]
    by_cases h : p c = true
    · rw [if_pos h, ih]; simp [h]
    · rw [if_neg h]; simp [h]
theorem take_all (p : UInt8 → Bool) (l : List UInt8) (h : l.all p = true) : l.takeWhile p = l := by
  have h2 := (split_at p l).1
  rw [(drop_nil p l).mpr h, List.append_nil] at h2; exact h2.symm
theorem all_eq (l : List UInt8) (b : Int) (k : Nat) (hl : l.length ≤ 450) (hk : 20000 ≤ k) : tag_all.f k (ba l) b = some (alld b l) := by
  unfold tag_all.f
  rw [digits_eq l b k hl hk]
  simp only [Option.bind_some, toList_mk]
  unfold alld
  by_cases h : l.all (dig b) = true
  · rw [if_pos ((drop_nil _ _).mpr h), take_all _ _ h, h]
    cases l <;> simp
  · rw [if_neg (fun e => h ((drop_nil _ _).mp e))]
    simp [h]
theorem sgn_le (l : List UInt8) : (sgn l).length ≤ l.length := by
  cases l with
  | nil => simp [sgn]
  | cons c t => show (if c = 43 ∨ c = 45 then t else c :: t).length ≤ _; split <;> simp
theorem drop_le (p : UInt8 → Bool) (l : List UInt8) : (l.dropWhile p).length ≤ l.length := (List.dropWhile_sublist p).length_le
theorem whole_some (l : List UInt8) (k : Nat) (hl : l.length ≤ 450) (hk : 20000 ≤ k) : tag_whole.f k (ba l) = some (whole l) := by
  unfold tag_whole.f whole
  have hs := sgn_le l
  rw [show (⟨#[48, 111]⟩ : ByteArray) = ba [48, 111] from rfl, show (⟨#[48, 120]⟩ : ByteArray) = ba [48, 120] from rfl, cut_eq, cut_eq, sign_eq]
  by_cases h1 : pre [48, 111] l = true
  · rw [if_pos h1, if_pos h1]
    simp only [Option.bind_some, if_true]
    rw [all_eq _ _ _ (by rw [List.length_drop]; omega) hk]
    rfl
  · rw [if_neg h1, if_neg h1]
    simp only [Option.bind_some, if_false, Bool.false_eq_true]
    by_cases h2 : pre [48, 120] l = true
    · rw [if_pos h2, if_pos h2]
      simp only [if_true]
      rw [all_eq _ _ _ (by rw [List.length_drop]; omega) hk]
      rfl
    · rw [if_neg h2, if_neg h2]
      simp only [if_false, Bool.false_eq_true]
      rw [all_eq _ _ _ (by omega) hk]
      rfl
theorem tail_eq (r : List UInt8) (a b : Nat) (k : Nat) (ha : a ≤ 450) (hb : b ≤ 450) (hl : r.length ≤ 450) (hk : 20001 ≤ k) :
    tag_real.j0 k (ba r) (a : Int) (b : Int) = some (tail2 (a + b) r) := by
  obtain ⟨k, rfl⟩ : ∃ m, k = m + 1 := ⟨k - 1, by omega⟩
  simp only [tag_real.j0]
  have hw : wrap64 ((a : Int) + (b : Int)) = ((a + b : Nat) : Int) := by unfold wrap64; omega
  rw [hw, toList_mk, size_mk]
  unfold tail2
  by_cases h0 : a + b = 0
  · rw [if_pos (by omega), if_pos h0]
  · rw [if_neg (by omega), if_neg h0]
    cases r with
    | nil => rfl
    | cons c u =>
      have h101 : ((c.toNat : Int) = 101) ↔ c = 101 := ofNat_int c 101 (by decide)
      have h69 : ((c.toNat : Int) = 69) ↔ c = 69 := ofNat_int c 69 (by decide)
      have he : (ba (c :: u)).extract 1 (c :: u).length = ba u := extract_all _ _
      have hs := sgn_le u
      have hu : (c :: u).length = u.length + 1 := rfl
      have p0 : (0 : Int) < ((c :: u).length : Int) := by simp only [List.length_cons]; omega
      have p1 : (1 : Int) ≤ ((c :: u).length : Int) := by simp only [List.length_cons]; omega
      have hsu : (sgn u).length ≤ 450 := by rw [hu] at hl; omega
      rw [if_neg (by simp), if_pos p0, bt_zero, if_pos p1, he, sign_eq]
      simp only [Option.bind_some, h101, h69]
      rw [all_eq _ _ _ hsu (by omega)]
      simp only [Option.bind_some]
      unfold isE
      by_cases h1 : c = 101
      · simp [h1]
      · by_cases h2 : c = 69 <;> simp [h1, h2]
theorem real_some (l : List UInt8) (k : Nat) (hl : l.length ≤ 450) (hk : 20001 ≤ k) : tag_real.f k (ba l) = some (real l) := by
  unfold tag_real.f real
  have hs := sgn_le l
  rw [sign_eq]
  simp only [Option.bind_some]
  generalize sgn l = t at *
  have h1 := (List.takeWhile_sublist (dig 10) (l := t)).length_le
  have h2 := drop_le (dig 10) t
  rw [digits_eq t 10 k (by omega) (by omega)]
  simp only [Option.bind_some]
  rw [show (⟨#[46]⟩ : ByteArray) = ba [46] from rfl, cut_eq]
  cases hd : t.dropWhile (dig 10) with
  | nil =>
    rw [if_neg (by decide)]
    simp only [Option.bind_some, Bool.false_eq_true, if_false]
    exact tail_eq [] _ 0 k (by omega) (by omega) (by simp) hk
  | cons c u =>
    rw [hd] at h2
    have hu : (c :: u).length = u.length + 1 := rfl
    have hp : pre [46] (c :: u) = (46 == c) := by unfold pre; simp [List.isPrefixOf]
    by_cases h46 : c = 46
    · subst h46
      rw [if_pos (by rw [hp]; rfl)]
      simp only [Option.bind_some, if_true, List.length_singleton, List.drop_succ_cons, List.drop_zero]
      have h3 := (List.takeWhile_sublist (dig 10) (l := u)).length_le
      have h4 := drop_le (dig 10) u
      rw [digits_eq u 10 k (by omega) (by omega)]
      simp only [Option.bind_some]
      exact tail_eq _ _ _ k (by omega) (by omega) (by omega) hk
    · rw [if_neg (by rw [hp]; simp; exact fun e => h46 e.symm)]
      simp only [Option.bind_some, Bool.false_eq_true, if_false]
      rw [if_neg h46]
      exact tail_eq (c :: u) _ 0 k (by omega) (by omega) (by omega) hk
end Go.Proofs.YthgafcaoibfchaaDoor.Impl
end
section
set_option linter.unusedSimpArgs false
namespace Go.Proofs.YthgafcaoibfchaaDoor.Impl
open Go.RowKit Go.Proofs.YthgafcaoibfchaaDoor.X Go.Proofs.YthgafcaoibfchaaDoorW.PrintWords Go.Proofs.YthgafcaoibfchaaDoorW.PrintLast
open Go.Proofs.YthgafcaoibfchaaDoor.Bytes Go.Proofs.YthgafcaoibfchaaDoor.Plain
abbrev bNull : List UInt8 := [110, 117, 108, 108]
abbrev bBool : List UInt8 := [98, 111, 111, 108]
abbrev bInt : List UInt8 := [105, 110, 116]
abbrev bFloat : List UInt8 := [102, 108, 111, 97, 116]
abbrev bStr : List UInt8 := [115, 116, 114]
abbrev bSeq : List UInt8 := [115, 101, 113]
abbrev bMap : List UInt8 := [109, 97, 112]
abbrev nulls : List (List UInt8) := [[], [126], [110, 117, 108, 108], [78, 117, 108, 108], [78, 85, 76, 76]]
abbrev bools : List (List UInt8) := [[116, 114, 117, 101], [84, 114, 117, 101], [84, 82, 85, 69], [102, 97, 108, 115, 101], [70, 97, 108, 115, 101], [70, 65, 76, 83, 69]]
abbrev nans : List (List UInt8) := [[46, 110, 97, 110], [46, 78, 97, 78], [46, 78, 65, 78]]
abbrev infs : List (List UInt8) := [[46, 105, 110, 102], [46, 73, 110, 102], [46, 73, 78, 70]]
abbrev plains : List (List UInt8) := [bNull, bBool, bInt, bFloat]
abbrev cores : List (List UInt8) := [bNull, bBool, bInt, bFloat, bStr, bSeq, bMap]
def R1 (l : List UInt8) : List UInt8 := if l ∈ nulls then bNull else if l ∈ bools then bBool else if l ∈ nans then bFloat else if sgn l ∈ infs then bFloat else if whole l = true then bInt else if real l = true then bFloat else bStr
theorem resolve1 (l : List UInt8) (k : Nat) (hl : l.length ≤ 450) (hk : 30001 ≤ k) : tag_Resolve.f k (ba l) = some (ba (R1 l)) := by
  unfold tag_Resolve.f R1
  rw [sign_eq, whole_some l k hl (by omega), real_some l k hl (by omega)]
  simp only [toList_mk, Option.bind_some]
  by_cases h1 : l ∈ nulls
  · rw [if_pos h1]
    simp only [nulls, List.mem_cons, List.not_mem_nil, or_false] at h1
    rcases h1 with rfl | rfl | rfl | rfl | rfl <;> rfl
  rw [if_neg h1]
  simp only [nulls, List.mem_cons, List.not_mem_nil, or_false, not_or] at h1
  obtain ⟨a1, a2, a3, a4, a5⟩ := h1
  rw [if_neg a1, if_neg a2, if_neg a3, if_neg a4, if_neg a5]
  by_cases h2 : l ∈ bools
  · rw [if_pos h2]
    simp only [bools, List.mem_cons, List.not_mem_nil, or_false] at h2
    rcases h2 with rfl | rfl | rfl | rfl | rfl | rfl <;> rfl
  rw [if_neg h2]
  simp only [bools, List.mem_cons, List.not_mem_nil, or_false, not_or] at h2
  obtain ⟨a1, a2, a3, a4, a5, a6⟩ := h2
  rw [if_neg a1, if_neg a2, if_neg a3, if_neg a4, if_neg a5, if_neg a6]
  by_cases h3 : l ∈ nans
  · rw [if_pos h3]
    simp only [nans, List.mem_cons, List.not_mem_nil, or_false] at h3
    rcases h3 with rfl | rfl | rfl <;> rfl
  rw [if_neg h3]
  simp only [nans, List.mem_cons, List.not_mem_nil, or_false, not_or] at h3
  obtain ⟨a1, a2, a3⟩ := h3
  rw [if_neg a1, if_neg a2, if_neg a3]
  by_cases h4 : sgn l ∈ infs
  · rw [if_pos h4]
    simp only [infs, List.mem_cons, List.not_mem_nil, or_false] at h4
    rcases h4 with h | h | h <;> rw [h] <;> rfl
  rw [if_neg h4]
  simp only [infs, List.mem_cons, List.not_mem_nil, or_false, not_or] at h4
  obtain ⟨a1, a2, a3⟩ := h4
  rw [if_neg a1, if_neg a2, if_neg a3]
  cases whole l <;> cases real l <;> rfl
end Go.Proofs.YthgafcaoibfchaaDoor.Impl
end
section
set_option linter.unusedSimpArgs false
namespace Go.Proofs.YthgafcaoibfchaaDoor.Impl
open Go.RowKit Go.Proofs.YthgafcaoibfchaaDoor.X Go.Proofs.YthgafcaoibfchaaDoorW.PrintWords Go.Proofs.YthgafcaoibfchaaDoorW.PrintLast
open Go.Proofs.YthgafcaoibfchaaDoor.Bytes Go.Proofs.YthgafcaoibfchaaDoor.Plain
def names : List UInt8 := [48, 49, 50, 51, 52, 53, 54, 55, 56, 57, 97, 98, 99, 100, 101, 102, 103, 104, 105, 106, 107, 108, 109, 110, 111, 112, 113, 114, 115, 116, 117, 118, 119, 120, 121, 122, 65, 66, 67, 68, 69, 70, 71, 72, 73, 74, 75, 76, 77, 78, 79, 80, 81, 82, 83, 84, 85, 86, 87, 88, 89, 90, 45]
theorem name_byte (c : UInt8) : Own.nameByte c = names.contains c := all_u8 (p := fun c => Own.nameByte c = names.contains c) (by decide +kernel) c
def own (l : List UInt8) : Bool := pre [33] l && decide (l.length ≤ 41) && only (l.drop 1) names
theorem own1 (l : List UInt8) : tag_own.f (ba l) = some (own l) := by
  unfold tag_own.f own
  rw [show (⟨#[33]⟩ : ByteArray) = ba [33] from rfl, cut_eq]
  simp only [Option.bind_some]
  congr 1
  by_cases h : pre [33] l = true
  · rw [if_pos h, h]
    unfold tag_own.g
    dsimp only
    rw [toList_mk, size_mk, Bool.true_and, Bool.true_and, show [(33 : UInt8)].length = 1 from rfl]
    have hl := pre_le h
    have h1 : decide ((l.drop 1).length ≤ 40) = decide (l.length ≤ 41) := by
      rw [List.length_drop]; rw [Bool.eq_iff_iff]; simp
    rw [h1]
    unfold only
    rw [show (l.drop 1).all Own.nameByte = (l.drop 1).all names.contains from by congr 1; funext c; exact name_byte c]
    cases l.drop 1 <;> simp [Bool.and_comm]
  · rw [if_neg h, Bool.eq_false_iff.mpr h]
    rfl
theorem plain_some (l : List UInt8) : tag_plain.f (ba l) = some (decide (l ∈ plains)) := by
  unfold tag_plain.f
  rw [toList_mk]
  by_cases h : l ∈ plains
  · rw [decide_eq_true h]
    simp only [plains, List.mem_cons, List.not_mem_nil, or_false] at h
    rcases h with rfl | rfl | rfl | rfl <;> rfl
  · rw [decide_eq_false h]
    simp only [plains, List.mem_cons, List.not_mem_nil, or_false, not_or] at h
    obtain ⟨a1, a2, a3, a4⟩ := h
    rw [if_neg a1, if_neg a2, if_neg a3, beq_eq_false_iff_ne.mpr a4]
theorem core1 (l : List UInt8) : tag_Core.f (ba l) = some (decide (l ∈ cores)) := by
  unfold tag_Core.f
  rw [toList_mk, plain_some]
  simp only [Option.bind_some]
  by_cases h : l ∈ cores
  · rw [decide_eq_true h]
    simp only [cores, List.mem_cons, List.not_mem_nil, or_false] at h
    rcases h with rfl | rfl | rfl | rfl | rfl | rfl | rfl <;> rfl
  · rw [decide_eq_false h]
    simp only [cores, List.mem_cons, List.not_mem_nil, or_false, not_or] at h
    obtain ⟨a1, a2, a3, a4, a5, a6, a7⟩ := h
    rw [if_neg a6, if_neg a7, if_neg a5, decide_eq_false (by simp only [plains, List.mem_cons, List.not_mem_nil, or_false, not_or]; exact ⟨a1, a2, a3, a4⟩)]
def fits (t s : List UInt8) : Bool := if t ∈ plains then (if R1 s = t then true else if t = bFloat then R1 s == bInt else false) else if t = bStr then true else own t
theorem fits1 (t s : List UInt8) (k : Nat) (hs : s.length ≤ 450) (hk : 30001 ≤ k) : tag_Fits.f k (ba t) (ba s) = some (fits t s) := by
  unfold tag_Fits.f fits
  rw [plain_some, resolve1 s k hs hk, own1]
  simp only [Option.bind_some, toList_mk]
  by_cases h : t ∈ plains
  · rw [if_pos (decide_eq_true h), if_pos h]
    by_cases h1 : R1 s = t
    · rw [if_pos h1, if_pos h1]
    · rw [if_neg h1, if_neg h1]
      by_cases h2 : t = bFloat
      · rw [if_pos h2, if_pos h2]
      · rw [if_neg h2, if_neg h2]
  · rw [if_neg (by rw [decide_eq_false h]; decide), if_neg h]
    by_cases h2 : t = bStr
    · rw [if_pos h2, if_pos h2]
    · rw [if_neg h2, if_neg h2]
def right (t : List UInt8) : Bool := decide (t ∈ cores) || own t
def word (t : List UInt8) : List UInt8 := if t ∈ cores then 33 :: 33 :: t else if own t = true then t else []
def read (w : List UInt8) : List UInt8 × Int := if pre [33, 33] w = true then (if w.drop 2 ∈ cores then (w.drop 2, 0) else ([], 14)) else if own w = true then (w, 0) else ([], 14)
theorem right1 (t : List UInt8) : tag_Right.f (ba t) = some (right t) := by
  unfold tag_Right.f right
  rw [core1, own1]
  simp only [Option.bind_some]
  by_cases h : t ∈ cores
  · rw [if_pos (decide_eq_true h), decide_eq_true h]; rfl
  · rw [if_neg (by rw [decide_eq_false h]; decide), decide_eq_false h]; rfl
theorem word1 (t : List UInt8) (ht : t.length ≤ 450) : tag_Word.f (ba t) = some (ba (word t)) := by
  unfold tag_Word.f word
  rw [core1, own1]
  simp only [Option.bind_some, size_mk]
  by_cases h : t ∈ cores
  · rw [if_pos (decide_eq_true h), if_pos h, if_pos (by omega), show (⟨#[33, 33]⟩ : ByteArray) = ba [33, 33] from rfl, append_mk]; rfl
  · rw [if_neg (by rw [decide_eq_false h]; decide), if_neg h]
    cases own t <;> rfl
theorem read1 (w : List UInt8) : tag_Read.f (ba w) = some (ba (read w).1, (read w).2) := by
  unfold tag_Read.f read
  rw [show (⟨#[33, 33]⟩ : ByteArray) = ba [33, 33] from rfl, cut_eq]
  by_cases h : pre [33, 33] w = true
  · rw [if_pos h, if_pos h]
    simp only [Option.bind_some, if_true]
    rw [core1]
    simp only [Option.bind_some]
    rw [show [(33 : UInt8), 33].length = 2 from rfl]
    by_cases h2 : w.drop 2 ∈ cores
    · rw [if_pos (decide_eq_true h2), if_pos h2]
    · rw [if_neg (by rw [decide_eq_false h2]; decide), if_neg h2]
  · rw [if_neg h, if_neg h]
    simp only [Option.bind_some, Bool.false_eq_true, if_false]
    rw [own1]
    cases own w <;> rfl
theorem alive (k : Nat) (hk : 30001 ≤ k) : grillelaw03_alive.f k = some true := by
  unfold grillelaw03_alive.f
  rw [show (⟨#[33, 33, 105, 110, 116]⟩ : ByteArray) = ba [33, 33, 105, 110, 116] from rfl, show (⟨#[105, 110, 116]⟩ : ByteArray) = ba bInt from rfl, show (⟨#[48, 120, 49, 70]⟩ : ByteArray) = ba [48, 120, 49, 70] from rfl,
    show (⟨#[49, 46]⟩ : ByteArray) = ba [49, 46] from rfl, show (⟨#[49, 46, 50, 46, 51]⟩ : ByteArray) = ba [49, 46, 50, 46, 51] from rfl, show (⟨#[33, 97]⟩ : ByteArray) = ba [33, 97] from rfl, show (⟨#[115, 101, 113]⟩ : ByteArray) = ba bSeq from rfl,
    show (⟨#[33, 120, 45, 49]⟩ : ByteArray) = ba [33, 120, 45, 49] from rfl, show (⟨#[102, 108, 111, 97, 116]⟩ : ByteArray) = ba bFloat from rfl, show (⟨#[49]⟩ : ByteArray) = ba [49] from rfl,
    read1, read1, resolve1 _ k (by decide) hk, resolve1 _ k (by decide) hk, resolve1 _ k (by decide) hk, word1 _ (by decide), core1, right1, fits1 _ _ k (by decide) hk]
  simp only [Option.bind_some, toList_mk]
  rw [if_pos (by decide), if_pos (by decide), if_pos (by decide), if_pos (by decide), if_pos (by decide), if_pos (by decide), if_pos (by decide), if_pos (by decide), if_pos (by decide)]
  rfl
end Go.Proofs.YthgafcaoibfchaaDoor.Impl
end
