/- Printed by a program of ours (wip/tools) out of the translation: each function as a plain Lean function, and a proof that the call answers so. -/
import Derived.Test.YtmedojlhnpcniaaX0
import Derived.Test.YtmedojlhnpcniaaX5
import Derived.Test.YtmedojlhnpcniaaX6
namespace Go.Proofs.Ytmedojlhnpcniaa.X
open Go.RowKit Go.Proofs.YtmedojlhnpcniaaW.PrintWords Go.Proofs.YtmedojlhnpcniaaW.PrintLast Go.Proofs.YtmedojlhnpcniaaW.PrintMore
attribute [local go_sem] max2_int min2_int max_two min_two max_three min_three max_four min_four   -- for this text's walks alone
set_option linter.unusedVariables false
set_option linter.unusedSimpArgs false

/-! ### tag_Word: function 18 -/
def tag_Word.f (a0 : ByteArray) : Option (ByteArray) := (tag_Core.f a0).bind fun t139 => (if t139 = true then (if 2 + a0.size ≤ 9223372036854775807 then (some ((⟨#[33, 33]⟩ : ByteArray) ++ a0)) else (none)) else ((tag_own.f a0).bind fun t140 => (if t140 = true then (some a0) else (some (⟨#[]⟩ : ByteArray)))))
set_option maxHeartbeats 8000000 in
set_option maxRecDepth 100000 in
theorem tag_Word.calls (a0 : ByteArray) (r : ByteArray) (w : World) (h : tag_Word.f a0 = some r) :
    Calls Try.prog 18 #[.string a0] w fun e w' => e = .returned (.string r) ∧ Below w.heap.size w w' := by
  have HB := Aside0.mk (Below.refl w.heap.size w)
  have H : ((tag_Core.f a0).bind fun t139 => (if t139 = true then (if 2 + a0.size ≤ 9223372036854775807 then (some ((⟨#[33, 33]⟩ : ByteArray) ++ a0)) else (none)) else ((tag_own.f a0).bind fun t140 => (if t140 = true then (some a0) else (some (⟨#[]⟩ : ByteArray)))))) = some r := h
  clear h
  replace H := Option.bind_eq_some_iff.mp H
  obtain ⟨t139, A20, H⟩ := H
  replace H : (if t139 = true then (if 2 + a0.size ≤ 9223372036854775807 then (some ((⟨#[33, 33]⟩ : ByteArray) ++ a0)) else (none)) else ((tag_own.f a0).bind fun t140 => (if t140 = true then (some a0) else (some (⟨#[]⟩ : ByteArray))))) = some r := H
  have A2 := Aside0.mk A20
  clear A20
  by_cases c3 : t139 = true
  · subst c3
    have H1 : (if 2 + a0.size ≤ 9223372036854775807 then (some ((⟨#[33, 33]⟩ : ByteArray) ++ a0)) else (none)) = some r := by rw [if_pos rfl] at H; exact H
    clear H
    have H := H1
    clear H1
    by_cases c4 : 2 + a0.size ≤ 9223372036854775807
    · rw [if_pos c4] at H
      have c4b0 := eq_true c4
      have c4b1 : decide (2 + a0.size ≤ 9223372036854775807) = true := decide_eq_true c4
      try have c4b2 : (9223372036854775807 < 2 + a0.size) = False := eq_false (Nat.not_lt.2 c4)
      obtain rfl := Option.some.inj H
      go_enter Try.func18, Try.ntmps18
      go_wp2_with (first | ((with_reducible refine gate_callee (f := 14) rfl ?_); refine goesL_ (some 5) rfl rfl Try.func14 (by kernel_rfl) rfl #[.string a0] rfl (by (try simp only [List.map_toArray, List.map_cons, List.map_nil]); first | done | rfl | (simp only [List.length_drop, List.length_take]; rfl)) ?_; (with_reducible refine (tag_Core.calls a0 true _ A2.out).mono ?_); rintro e w' ⟨rfl, ⟨nd, rfl⟩⟩; refine ⟨_, rfl, ?_⟩))
      go_ret
      exact ⟨by first | rfl | (simp [errW_none, errW_some] <;> rfl) | (simp [*, errW_none, errW_some] <;> rfl), by repeat (first | (with_reducible first | exact HB.out | apply below_alloc | apply pw_below_drewN | apply below_drew1) | exact HB.out)⟩
    · rw [if_neg c4] at H
      exact absurd H (by simp)
  · replace c3 := Bool.eq_false_iff.mpr c3
    subst c3
    have H1 : ((tag_own.f a0).bind fun t140 => (if t140 = true then (some a0) else (some (⟨#[]⟩ : ByteArray)))) = some r := by rw [if_neg (show ¬ (false = true) by decide)] at H; exact H
    clear H
    have H := H1
    clear H1
    replace H := Option.bind_eq_some_iff.mp H
    obtain ⟨t140, A50, H⟩ := H
    replace H : (if t140 = true then (some a0) else (some (⟨#[]⟩ : ByteArray))) = some r := H
    have A5 := Aside0.mk A50
    clear A50
    by_cases c6 : t140 = true
    · subst c6
      have H1 : (some a0) = some r := by rw [if_pos rfl] at H; exact H
      clear H
      have H := H1
      clear H1
      obtain rfl := Option.some.inj H
      go_enter Try.func18, Try.ntmps18
      go_wp2_with (first | ((with_reducible refine gate_callee (f := 14) rfl ?_); refine goesL_ (some 5) rfl rfl Try.func14 (by kernel_rfl) rfl #[.string a0] rfl (by (try simp only [List.map_toArray, List.map_cons, List.map_nil]); first | done | rfl | (simp only [List.length_drop, List.length_take]; rfl)) ?_; (with_reducible refine (tag_Core.calls a0 false _ A2.out).mono ?_); rintro e w' ⟨rfl, ⟨nd, rfl⟩⟩; refine ⟨_, rfl, ?_⟩) | ((with_reducible refine gate_callee (f := 27) rfl ?_); refine goesL_ (some 10) rfl rfl Try.func27 (by kernel_rfl) rfl #[.string a0] rfl (by (try simp only [List.map_toArray, List.map_cons, List.map_nil]); first | done | rfl | (simp only [List.length_drop, List.length_take]; rfl)) ?_; (with_reducible refine (tag_own.calls a0 true _ A5.out).mono ?_); rintro e w7 ⟨rfl, hb⟩; refine ⟨_, rfl, ?_⟩; have n0_ := Aside0.mk (below_step (by repeat (first | (with_reducible first | exact HB.out | apply below_alloc | apply pw_below_drewN | apply below_drew1) | exact HB.out)) hb); clear HB; have HB := n0_; clear n0_; (try clear hb); (try clear hb2); (try clear hk); (try clear hi)))
      go_ret
      exact ⟨by first | rfl | (simp [errW_none, errW_some] <;> rfl) | (simp [*, errW_none, errW_some] <;> rfl), by repeat (first | (with_reducible first | exact HB.out | apply below_alloc | apply pw_below_drewN | apply below_drew1) | exact HB.out)⟩
    · replace c6 := Bool.eq_false_iff.mpr c6
      subst c6
      have H1 : (some (⟨#[]⟩ : ByteArray)) = some r := by rw [if_neg (show ¬ (false = true) by decide)] at H; exact H
      clear H
      have H := H1
      clear H1
      obtain rfl := Option.some.inj H
      go_enter Try.func18, Try.ntmps18
      go_wp2_with (first | ((with_reducible refine gate_callee (f := 14) rfl ?_); refine goesL_ (some 5) rfl rfl Try.func14 (by kernel_rfl) rfl #[.string a0] rfl (by (try simp only [List.map_toArray, List.map_cons, List.map_nil]); first | done | rfl | (simp only [List.length_drop, List.length_take]; rfl)) ?_; (with_reducible refine (tag_Core.calls a0 false _ A2.out).mono ?_); rintro e w' ⟨rfl, ⟨nd, rfl⟩⟩; refine ⟨_, rfl, ?_⟩) | ((with_reducible refine gate_callee (f := 27) rfl ?_); refine goesL_ (some 10) rfl rfl Try.func27 (by kernel_rfl) rfl #[.string a0] rfl (by (try simp only [List.map_toArray, List.map_cons, List.map_nil]); first | done | rfl | (simp only [List.length_drop, List.length_take]; rfl)) ?_; (with_reducible refine (tag_own.calls a0 false _ A5.out).mono ?_); rintro e w8 ⟨rfl, hb⟩; refine ⟨_, rfl, ?_⟩; have n0_ := Aside0.mk (below_step (by repeat (first | (with_reducible first | exact HB.out | apply below_alloc | apply pw_below_drewN | apply below_drew1) | exact HB.out)) hb); clear HB; have HB := n0_; clear n0_; (try clear hb); (try clear hb2); (try clear hk); (try clear hi)))
      go_ret
      exact ⟨by first | rfl | (simp [errW_none, errW_some] <;> rfl) | (simp [*, errW_none, errW_some] <;> rfl), by repeat (first | (with_reducible first | exact HB.out | apply below_alloc | apply pw_below_drewN | apply below_drew1) | exact HB.out)⟩

/-! ### grillelaw03_alive: function 7 -/
def grillelaw03_alive.f (k : Nat)  : Option (Bool) := (tag_Read.f (⟨#[33, 33, 105, 110, 116]⟩ : ByteArray)).bind fun bt141 => ((tag_Read.f (⟨#[105, 110, 116]⟩ : ByteArray)).bind fun bt143 => ((tag_Resolve.f k (⟨#[48, 120, 49, 70]⟩ : ByteArray)).bind fun t145 => (if t145.toList = ([105, 110, 116] : List UInt8) then ((tag_Resolve.f k (⟨#[49, 46]⟩ : ByteArray)).bind fun t146 => (if t146.toList = ([102, 108, 111, 97, 116] : List UInt8) then ((tag_Resolve.f k (⟨#[49, 46, 50, 46, 51]⟩ : ByteArray)).bind fun t147 => (if t147.toList = ([115, 116, 114] : List UInt8) then ((tag_Word.f (⟨#[33, 97]⟩ : ByteArray)).bind fun t148 => (if t148.toList = ([33, 97] : List UInt8) then (if bt141.1.toList = ([105, 110, 116] : List UInt8) then (if bt141.2 = 0 then (if bt143.2 = 14 then ((tag_Core.f (⟨#[115, 101, 113]⟩ : ByteArray)).bind fun t149 => (if t149 = true then ((tag_Right.f (⟨#[33, 120, 45, 49]⟩ : ByteArray)).bind fun t150 => (if t150 = true then ((tag_Fits.f k (⟨#[102, 108, 111, 97, 116]⟩ : ByteArray) (⟨#[49]⟩ : ByteArray)).bind fun t151 => (some t151)) else (some false))) else (some false))) else (some false)) else (some false)) else (some false)) else (some false))) else (some false))) else (some false))) else (some false))))
theorem grillelaw03_alive.mono : ∀ k, LeO (grillelaw03_alive.f k ) (grillelaw03_alive.f (k + 1) ) := by
  intro  k
  unfold grillelaw03_alive.f
  repeat' first
      | (with_reducible exact tag_Fits.mono _ _ _)
      | (with_reducible exact tag_Resolve.mono _ _)
      | (with_reducible exact LeO.refl _)
      | (with_reducible exact LeO.none _)
      | (with_reducible refine LeO.ite ?_ ?_)
      | (with_reducible refine LeO.bind ?_ (fun _ => ?_))
      | exact tag_Fits.mono _ _ _
      | exact tag_Resolve.mono _ _
      | exact LeO.none _
      | refine LeO.ite ?_ ?_
      | refine LeO.bind ?_ (fun _ => ?_)
set_option maxHeartbeats 8000000 in
set_option maxRecDepth 100000 in
theorem grillelaw03_alive.calls (k : Nat)  (r : Bool) (w : World) (h : grillelaw03_alive.f k  = some r) :
    Calls Try.prog 7 #[] w fun e w' => e = .returned (.bool r) ∧ Below w.heap.size w w' := by
  have HB := Aside0.mk (Below.refl w.heap.size w)
  have H : ((tag_Read.f (⟨#[33, 33, 105, 110, 116]⟩ : ByteArray)).bind fun bt141 => ((tag_Read.f (⟨#[105, 110, 116]⟩ : ByteArray)).bind fun bt143 => ((tag_Resolve.f k (⟨#[48, 120, 49, 70]⟩ : ByteArray)).bind fun t145 => (if t145.toList = ([105, 110, 116] : List UInt8) then ((tag_Resolve.f k (⟨#[49, 46]⟩ : ByteArray)).bind fun t146 => (if t146.toList = ([102, 108, 111, 97, 116] : List UInt8) then ((tag_Resolve.f k (⟨#[49, 46, 50, 46, 51]⟩ : ByteArray)).bind fun t147 => (if t147.toList = ([115, 116, 114] : List UInt8) then ((tag_Word.f (⟨#[33, 97]⟩ : ByteArray)).bind fun t148 => (if t148.toList = ([33, 97] : List UInt8) then (if bt141.1.toList = ([105, 110, 116] : List UInt8) then (if bt141.2 = 0 then (if bt143.2 = 14 then ((tag_Core.f (⟨#[115, 101, 113]⟩ : ByteArray)).bind fun t149 => (if t149 = true then ((tag_Right.f (⟨#[33, 120, 45, 49]⟩ : ByteArray)).bind fun t150 => (if t150 = true then ((tag_Fits.f k (⟨#[102, 108, 111, 97, 116]⟩ : ByteArray) (⟨#[49]⟩ : ByteArray)).bind fun t151 => (some t151)) else (some false))) else (some false))) else (some false)) else (some false)) else (some false)) else (some false))) else (some false))) else (some false))) else (some false))))) = some r := h
  clear h
  replace H := Option.bind_eq_some_iff.mp H
  obtain ⟨⟨t141, t142⟩, A10, H⟩ := H
  replace H : ((tag_Read.f (⟨#[105, 110, 116]⟩ : ByteArray)).bind fun bt143 => ((tag_Resolve.f k (⟨#[48, 120, 49, 70]⟩ : ByteArray)).bind fun t145 => (if t145.toList = ([105, 110, 116] : List UInt8) then ((tag_Resolve.f k (⟨#[49, 46]⟩ : ByteArray)).bind fun t146 => (if t146.toList = ([102, 108, 111, 97, 116] : List UInt8) then ((tag_Resolve.f k (⟨#[49, 46, 50, 46, 51]⟩ : ByteArray)).bind fun t147 => (if t147.toList = ([115, 116, 114] : List UInt8) then ((tag_Word.f (⟨#[33, 97]⟩ : ByteArray)).bind fun t148 => (if t148.toList = ([33, 97] : List UInt8) then (if t141.toList = ([105, 110, 116] : List UInt8) then (if t142 = 0 then (if bt143.2 = 14 then ((tag_Core.f (⟨#[115, 101, 113]⟩ : ByteArray)).bind fun t149 => (if t149 = true then ((tag_Right.f (⟨#[33, 120, 45, 49]⟩ : ByteArray)).bind fun t150 => (if t150 = true then ((tag_Fits.f k (⟨#[102, 108, 111, 97, 116]⟩ : ByteArray) (⟨#[49]⟩ : ByteArray)).bind fun t151 => (some t151)) else (some false))) else (some false))) else (some false)) else (some false)) else (some false)) else (some false))) else (some false))) else (some false))) else (some false)))) = some r := H
  have A1 := Aside0.mk A10
  clear A10
  replace H := Option.bind_eq_some_iff.mp H
  obtain ⟨⟨t143, t144⟩, A20, H⟩ := H
  replace H : ((tag_Resolve.f k (⟨#[48, 120, 49, 70]⟩ : ByteArray)).bind fun t145 => (if t145.toList = ([105, 110, 116] : List UInt8) then ((tag_Resolve.f k (⟨#[49, 46]⟩ : ByteArray)).bind fun t146 => (if t146.toList = ([102, 108, 111, 97, 116] : List UInt8) then ((tag_Resolve.f k (⟨#[49, 46, 50, 46, 51]⟩ : ByteArray)).bind fun t147 => (if t147.toList = ([115, 116, 114] : List UInt8) then ((tag_Word.f (⟨#[33, 97]⟩ : ByteArray)).bind fun t148 => (if t148.toList = ([33, 97] : List UInt8) then (if t141.toList = ([105, 110, 116] : List UInt8) then (if t142 = 0 then (if t144 = 14 then ((tag_Core.f (⟨#[115, 101, 113]⟩ : ByteArray)).bind fun t149 => (if t149 = true then ((tag_Right.f (⟨#[33, 120, 45, 49]⟩ : ByteArray)).bind fun t150 => (if t150 = true then ((tag_Fits.f k (⟨#[102, 108, 111, 97, 116]⟩ : ByteArray) (⟨#[49]⟩ : ByteArray)).bind fun t151 => (some t151)) else (some false))) else (some false))) else (some false)) else (some false)) else (some false)) else (some false))) else (some false))) else (some false))) else (some false))) = some r := H
  have A2 := Aside0.mk A20
  clear A20
  replace H := Option.bind_eq_some_iff.mp H
  obtain ⟨t145, A30, H⟩ := H
  replace H : (if t145.toList = ([105, 110, 116] : List UInt8) then ((tag_Resolve.f k (⟨#[49, 46]⟩ : ByteArray)).bind fun t146 => (if t146.toList = ([102, 108, 111, 97, 116] : List UInt8) then ((tag_Resolve.f k (⟨#[49, 46, 50, 46, 51]⟩ : ByteArray)).bind fun t147 => (if t147.toList = ([115, 116, 114] : List UInt8) then ((tag_Word.f (⟨#[33, 97]⟩ : ByteArray)).bind fun t148 => (if t148.toList = ([33, 97] : List UInt8) then (if t141.toList = ([105, 110, 116] : List UInt8) then (if t142 = 0 then (if t144 = 14 then ((tag_Core.f (⟨#[115, 101, 113]⟩ : ByteArray)).bind fun t149 => (if t149 = true then ((tag_Right.f (⟨#[33, 120, 45, 49]⟩ : ByteArray)).bind fun t150 => (if t150 = true then ((tag_Fits.f k (⟨#[102, 108, 111, 97, 116]⟩ : ByteArray) (⟨#[49]⟩ : ByteArray)).bind fun t151 => (some t151)) else (some false))) else (some false))) else (some false)) else (some false)) else (some false)) else (some false))) else (some false))) else (some false))) else (some false)) = some r := H
  have A3 := Aside0.mk A30
  clear A30
  by_cases c4 : t145.toList = ([105, 110, 116] : List UInt8)
  · rw [if_pos c4] at H
    have c4b0 : (t145.toList == ([105, 110, 116] : List UInt8)) = true := beq_iff_eq.mpr c4
    have c4b1 : (t145.toList != ([105, 110, 116] : List UInt8)) = false := bne_eq_false_iff_eq.mpr c4
    clear c4
    replace H := Option.bind_eq_some_iff.mp H
    obtain ⟨t146, A50, H⟩ := H
    replace H : (if t146.toList = ([102, 108, 111, 97, 116] : List UInt8) then ((tag_Resolve.f k (⟨#[49, 46, 50, 46, 51]⟩ : ByteArray)).bind fun t147 => (if t147.toList = ([115, 116, 114] : List UInt8) then ((tag_Word.f (⟨#[33, 97]⟩ : ByteArray)).bind fun t148 => (if t148.toList = ([33, 97] : List UInt8) then (if t141.toList = ([105, 110, 116] : List UInt8) then (if t142 = 0 then (if t144 = 14 then ((tag_Core.f (⟨#[115, 101, 113]⟩ : ByteArray)).bind fun t149 => (if t149 = true then ((tag_Right.f (⟨#[33, 120, 45, 49]⟩ : ByteArray)).bind fun t150 => (if t150 = true then ((tag_Fits.f k (⟨#[102, 108, 111, 97, 116]⟩ : ByteArray) (⟨#[49]⟩ : ByteArray)).bind fun t151 => (some t151)) else (some false))) else (some false))) else (some false)) else (some false)) else (some false)) else (some false))) else (some false))) else (some false)) = some r := H
    have A5 := Aside0.mk A50
    clear A50
    by_cases c6 : t146.toList = ([102, 108, 111, 97, 116] : List UInt8)
    · rw [if_pos c6] at H
      have c6b0 : (t146.toList == ([102, 108, 111, 97, 116] : List UInt8)) = true := beq_iff_eq.mpr c6
      have c6b1 : (t146.toList != ([102, 108, 111, 97, 116] : List UInt8)) = false := bne_eq_false_iff_eq.mpr c6
      clear c6
      replace H := Option.bind_eq_some_iff.mp H
      obtain ⟨t147, A70, H⟩ := H
      replace H : (if t147.toList = ([115, 116, 114] : List UInt8) then ((tag_Word.f (⟨#[33, 97]⟩ : ByteArray)).bind fun t148 => (if t148.toList = ([33, 97] : List UInt8) then (if t141.toList = ([105, 110, 116] : List UInt8) then (if t142 = 0 then (if t144 = 14 then ((tag_Core.f (⟨#[115, 101, 113]⟩ : ByteArray)).bind fun t149 => (if t149 = true then ((tag_Right.f (⟨#[33, 120, 45, 49]⟩ : ByteArray)).bind fun t150 => (if t150 = true then ((tag_Fits.f k (⟨#[102, 108, 111, 97, 116]⟩ : ByteArray) (⟨#[49]⟩ : ByteArray)).bind fun t151 => (some t151)) else (some false))) else (some false))) else (some false)) else (some false)) else (some false)) else (some false))) else (some false)) = some r := H
      have A7 := Aside0.mk A70
      clear A70
      by_cases c8 : t147.toList = ([115, 116, 114] : List UInt8)
      · rw [if_pos c8] at H
        have c8b0 : (t147.toList == ([115, 116, 114] : List UInt8)) = true := beq_iff_eq.mpr c8
        have c8b1 : (t147.toList != ([115, 116, 114] : List UInt8)) = false := bne_eq_false_iff_eq.mpr c8
        clear c8
        replace H := Option.bind_eq_some_iff.mp H
        obtain ⟨t148, A90, H⟩ := H
        replace H : (if t148.toList = ([33, 97] : List UInt8) then (if t141.toList = ([105, 110, 116] : List UInt8) then (if t142 = 0 then (if t144 = 14 then ((tag_Core.f (⟨#[115, 101, 113]⟩ : ByteArray)).bind fun t149 => (if t149 = true then ((tag_Right.f (⟨#[33, 120, 45, 49]⟩ : ByteArray)).bind fun t150 => (if t150 = true then ((tag_Fits.f k (⟨#[102, 108, 111, 97, 116]⟩ : ByteArray) (⟨#[49]⟩ : ByteArray)).bind fun t151 => (some t151)) else (some false))) else (some false))) else (some false)) else (some false)) else (some false)) else (some false)) = some r := H
        have A9 := Aside0.mk A90
        clear A90
        by_cases c10 : t148.toList = ([33, 97] : List UInt8)
        · rw [if_pos c10] at H
          have c10b0 : (t148.toList == ([33, 97] : List UInt8)) = true := beq_iff_eq.mpr c10
          have c10b1 : (t148.toList != ([33, 97] : List UInt8)) = false := bne_eq_false_iff_eq.mpr c10
          clear c10
          by_cases c11 : t141.toList = ([105, 110, 116] : List UInt8)
          · rw [if_pos c11] at H
            have c11b0 : (t141.toList == ([105, 110, 116] : List UInt8)) = true := beq_iff_eq.mpr c11
            have c11b1 : (t141.toList != ([105, 110, 116] : List UInt8)) = false := bne_eq_false_iff_eq.mpr c11
            clear c11
            by_cases c12 : t142 = 0
            · rw [if_pos c12] at H
              have c12b0 : (t142 == 0) = true := beq_iff_eq.mpr c12
              have c12b1 : (t142 != 0) = false := bne_eq_false_iff_eq.mpr c12
              clear c12
              by_cases c13 : t144 = 14
              · rw [if_pos c13] at H
                have c13b0 : (t144 == 14) = true := beq_iff_eq.mpr c13
                have c13b1 : (t144 != 14) = false := bne_eq_false_iff_eq.mpr c13
                clear c13
                replace H := Option.bind_eq_some_iff.mp H
                obtain ⟨t149, A140, H⟩ := H
                replace H : (if t149 = true then ((tag_Right.f (⟨#[33, 120, 45, 49]⟩ : ByteArray)).bind fun t150 => (if t150 = true then ((tag_Fits.f k (⟨#[102, 108, 111, 97, 116]⟩ : ByteArray) (⟨#[49]⟩ : ByteArray)).bind fun t151 => (some t151)) else (some false))) else (some false)) = some r := H
                have A14 := Aside0.mk A140
                clear A140
                by_cases c15 : t149 = true
                · subst c15
                  have H1 : ((tag_Right.f (⟨#[33, 120, 45, 49]⟩ : ByteArray)).bind fun t150 => (if t150 = true then ((tag_Fits.f k (⟨#[102, 108, 111, 97, 116]⟩ : ByteArray) (⟨#[49]⟩ : ByteArray)).bind fun t151 => (some t151)) else (some false))) = some r := by rw [if_pos rfl] at H; exact H
                  clear H
                  have H := H1
                  clear H1
                  replace H := Option.bind_eq_some_iff.mp H
                  obtain ⟨t150, A160, H⟩ := H
                  replace H : (if t150 = true then ((tag_Fits.f k (⟨#[102, 108, 111, 97, 116]⟩ : ByteArray) (⟨#[49]⟩ : ByteArray)).bind fun t151 => (some t151)) else (some false)) = some r := H
                  have A16 := Aside0.mk A160
                  clear A160
                  by_cases c17 : t150 = true
                  · subst c17
                    have H1 : ((tag_Fits.f k (⟨#[102, 108, 111, 97, 116]⟩ : ByteArray) (⟨#[49]⟩ : ByteArray)).bind fun t151 => (some t151)) = some r := by rw [if_pos rfl] at H; exact H
                    clear H
                    have H := H1
                    clear H1
                    replace H := Option.bind_eq_some_iff.mp H
                    obtain ⟨t151, A180, H⟩ := H
                    replace H : (some t151) = some r := H
                    have A18 := Aside0.mk A180
                    clear A180
                    obtain rfl := Option.some.inj H
                    go_enter Try.func7, Try.ntmps7
                    go_wp2_with (first | ((with_reducible refine gate_callee (f := 12) rfl ?_); refine goesL_ (some 6) rfl rfl Try.func12 (by kernel_rfl) rfl #[.string (⟨#[33, 33, 105, 110, 116]⟩ : ByteArray)] rfl (by (try simp only [List.map_toArray, List.map_cons, List.map_nil]); first | done | rfl | (simp only [List.length_drop, List.length_take]; rfl)) ?_; (with_reducible refine (tag_Read.calls (⟨#[33, 33, 105, 110, 116]⟩ : ByteArray) t141 t142 _ A1.out).mono ?_); rintro e w19 ⟨rfl, hb⟩; refine ⟨_, rfl, ?_⟩; have n0_ := Aside0.mk (below_step (by repeat (first | (with_reducible first | exact HB.out | apply below_alloc | apply pw_below_drewN | apply below_drew1) | exact HB.out)) hb); clear HB; have HB := n0_; clear n0_; (try clear hb); (try clear hb2); (try clear hk); (try clear hi)) | ((with_reducible refine gate_callee (f := 12) rfl ?_); refine goesL_ (some 10) rfl rfl Try.func12 (by kernel_rfl) rfl #[.string (⟨#[105, 110, 116]⟩ : ByteArray)] rfl (by (try simp only [List.map_toArray, List.map_cons, List.map_nil]); first | done | rfl | (simp only [List.length_drop, List.length_take]; rfl)) ?_; (with_reducible refine (tag_Read.calls (⟨#[105, 110, 116]⟩ : ByteArray) t143 t144 _ A2.out).mono ?_); rintro e w20 ⟨rfl, hb⟩; refine ⟨_, rfl, ?_⟩; have n0_ := Aside0.mk (below_step (by repeat (first | (with_reducible first | exact HB.out | apply below_alloc | apply pw_below_drewN | apply below_drew1) | exact HB.out)) hb); clear HB; have HB := n0_; clear n0_; (try clear hb); (try clear hb2); (try clear hk); (try clear hi)) | ((with_reducible refine gate_callee (f := 8) rfl ?_); refine goesL_ (some 13) rfl rfl Try.func8 (by kernel_rfl) rfl #[.string (⟨#[48, 120, 49, 70]⟩ : ByteArray)] rfl (by (try simp only [List.map_toArray, List.map_cons, List.map_nil]); first | done | rfl | (simp only [List.length_drop, List.length_take]; rfl)) ?_; (with_reducible refine (tag_Resolve.calls k (⟨#[48, 120, 49, 70]⟩ : ByteArray) t145 _ A3.out).mono ?_); rintro e w' ⟨rfl, ⟨nd, rfl⟩⟩; refine ⟨_, rfl, ?_⟩) | (go_at_call 8; (with_reducible refine (tag_Resolve.calls k (⟨#[49, 46]⟩ : ByteArray) t146 _ A5.out).mono ?_); rintro e w' ⟨rfl, ⟨nd, rfl⟩⟩) | (go_at_call 8; (with_reducible refine (tag_Resolve.calls k (⟨#[49, 46, 50, 46, 51]⟩ : ByteArray) t147 _ A7.out).mono ?_); rintro e w' ⟨rfl, ⟨nd, rfl⟩⟩) | (go_at_call 18; (with_reducible refine (tag_Word.calls (⟨#[33, 97]⟩ : ByteArray) t148 _ A9.out).mono ?_); rintro e w21 ⟨rfl, hb⟩; have n0_ := Aside0.mk (below_step (by repeat (first | (with_reducible first | exact HB.out | apply below_alloc | apply pw_below_drewN | apply below_drew1) | exact HB.out)) hb); clear HB; have HB := n0_; clear n0_; (try clear hb); (try clear hb2); (try clear hk); (try clear hi)) | (go_at_call 14; (with_reducible refine (tag_Core.calls (⟨#[115, 101, 113]⟩ : ByteArray) true _ A14.out).mono ?_); rintro e w' ⟨rfl, ⟨nd, rfl⟩⟩) | (go_at_call 16; (with_reducible refine (tag_Right.calls (⟨#[33, 120, 45, 49]⟩ : ByteArray) true _ A16.out).mono ?_); rintro e w22 ⟨rfl, hb⟩; have n0_ := Aside0.mk (below_step (by repeat (first | (with_reducible first | exact HB.out | apply below_alloc | apply pw_below_drewN | apply below_drew1) | exact HB.out)) hb); clear HB; have HB := n0_; clear n0_; (try clear hb); (try clear hb2); (try clear hk); (try clear hi)) | (go_at_call 10; (with_reducible refine (tag_Fits.calls k (⟨#[102, 108, 111, 97, 116]⟩ : ByteArray) (⟨#[49]⟩ : ByteArray) t151 _ A18.out).mono ?_); rintro e w23 ⟨rfl, hb⟩; have n0_ := Aside0.mk (below_step (by repeat (first | (with_reducible first | exact HB.out | apply below_alloc | apply pw_below_drewN | apply below_drew1) | exact HB.out)) hb); clear HB; have HB := n0_; clear n0_; (try clear hb); (try clear hb2); (try clear hk); (try clear hi)))
                    go_ret
                    exact ⟨by first | rfl | (simp [errW_none, errW_some] <;> rfl) | (simp [*, errW_none, errW_some] <;> rfl), by repeat (first | (with_reducible first | exact HB.out | apply below_alloc | apply pw_below_drewN | apply below_drew1) | exact HB.out)⟩
                  · replace c17 := Bool.eq_false_iff.mpr c17
                    subst c17
                    have H1 : (some false) = some r := by rw [if_neg (show ¬ (false = true) by decide)] at H; exact H
                    clear H
                    have H := H1
                    clear H1
                    obtain rfl := Option.some.inj H
                    go_enter Try.func7, Try.ntmps7
                    go_wp2_with (first | ((with_reducible refine gate_callee (f := 12) rfl ?_); refine goesL_ (some 6) rfl rfl Try.func12 (by kernel_rfl) rfl #[.string (⟨#[33, 33, 105, 110, 116]⟩ : ByteArray)] rfl (by (try simp only [List.map_toArray, List.map_cons, List.map_nil]); first | done | rfl | (simp only [List.length_drop, List.length_take]; rfl)) ?_; (with_reducible refine (tag_Read.calls (⟨#[33, 33, 105, 110, 116]⟩ : ByteArray) t141 t142 _ A1.out).mono ?_); rintro e w24 ⟨rfl, hb⟩; refine ⟨_, rfl, ?_⟩; have n0_ := Aside0.mk (below_step (by repeat (first | (with_reducible first | exact HB.out | apply below_alloc | apply pw_below_drewN | apply below_drew1) | exact HB.out)) hb); clear HB; have HB := n0_; clear n0_; (try clear hb); (try clear hb2); (try clear hk); (try clear hi)) | ((with_reducible refine gate_callee (f := 12) rfl ?_); refine goesL_ (some 10) rfl rfl Try.func12 (by kernel_rfl) rfl #[.string (⟨#[105, 110, 116]⟩ : ByteArray)] rfl (by (try simp only [List.map_toArray, List.map_cons, List.map_nil]); first | done | rfl | (simp only [List.length_drop, List.length_take]; rfl)) ?_; (with_reducible refine (tag_Read.calls (⟨#[105, 110, 116]⟩ : ByteArray) t143 t144 _ A2.out).mono ?_); rintro e w25 ⟨rfl, hb⟩; refine ⟨_, rfl, ?_⟩; have n0_ := Aside0.mk (below_step (by repeat (first | (with_reducible first | exact HB.out | apply below_alloc | apply pw_below_drewN | apply below_drew1) | exact HB.out)) hb); clear HB; have HB := n0_; clear n0_; (try clear hb); (try clear hb2); (try clear hk); (try clear hi)) | ((with_reducible refine gate_callee (f := 8) rfl ?_); refine goesL_ (some 13) rfl rfl Try.func8 (by kernel_rfl) rfl #[.string (⟨#[48, 120, 49, 70]⟩ : ByteArray)] rfl (by (try simp only [List.map_toArray, List.map_cons, List.map_nil]); first | done | rfl | (simp only [List.length_drop, List.length_take]; rfl)) ?_; (with_reducible refine (tag_Resolve.calls k (⟨#[48, 120, 49, 70]⟩ : ByteArray) t145 _ A3.out).mono ?_); rintro e w' ⟨rfl, ⟨nd, rfl⟩⟩; refine ⟨_, rfl, ?_⟩) | (go_at_call 8; (with_reducible refine (tag_Resolve.calls k (⟨#[49, 46]⟩ : ByteArray) t146 _ A5.out).mono ?_); rintro e w' ⟨rfl, ⟨nd, rfl⟩⟩) | (go_at_call 8; (with_reducible refine (tag_Resolve.calls k (⟨#[49, 46, 50, 46, 51]⟩ : ByteArray) t147 _ A7.out).mono ?_); rintro e w' ⟨rfl, ⟨nd, rfl⟩⟩) | (go_at_call 18; (with_reducible refine (tag_Word.calls (⟨#[33, 97]⟩ : ByteArray) t148 _ A9.out).mono ?_); rintro e w26 ⟨rfl, hb⟩; have n0_ := Aside0.mk (below_step (by repeat (first | (with_reducible first | exact HB.out | apply below_alloc | apply pw_below_drewN | apply below_drew1) | exact HB.out)) hb); clear HB; have HB := n0_; clear n0_; (try clear hb); (try clear hb2); (try clear hk); (try clear hi)) | (go_at_call 14; (with_reducible refine (tag_Core.calls (⟨#[115, 101, 113]⟩ : ByteArray) true _ A14.out).mono ?_); rintro e w' ⟨rfl, ⟨nd, rfl⟩⟩) | (go_at_call 16; (with_reducible refine (tag_Right.calls (⟨#[33, 120, 45, 49]⟩ : ByteArray) false _ A16.out).mono ?_); rintro e w27 ⟨rfl, hb⟩; have n0_ := Aside0.mk (below_step (by repeat (first | (with_reducible first | exact HB.out | apply below_alloc | apply pw_below_drewN | apply below_drew1) | exact HB.out)) hb); clear HB; have HB := n0_; clear n0_; (try clear hb); (try clear hb2); (try clear hk); (try clear hi)))
                    go_ret
                    exact ⟨by first | rfl | (simp [errW_none, errW_some] <;> rfl) | (simp [*, errW_none, errW_some] <;> rfl), by repeat (first | (with_reducible first | exact HB.out | apply below_alloc | apply pw_below_drewN | apply below_drew1) | exact HB.out)⟩
                · replace c15 := Bool.eq_false_iff.mpr c15
                  subst c15
                  have H1 : (some false) = some r := by rw [if_neg (show ¬ (false = true) by decide)] at H; exact H
                  clear H
                  have H := H1
                  clear H1
                  obtain rfl := Option.some.inj H
                  go_enter Try.func7, Try.ntmps7
                  go_wp2_with (first | ((with_reducible refine gate_callee (f := 12) rfl ?_); refine goesL_ (some 6) rfl rfl Try.func12 (by kernel_rfl) rfl #[.string (⟨#[33, 33, 105, 110, 116]⟩ : ByteArray)] rfl (by (try simp only [List.map_toArray, List.map_cons, List.map_nil]); first | done | rfl | (simp only [List.length_drop, List.length_take]; rfl)) ?_; (with_reducible refine (tag_Read.calls (⟨#[33, 33, 105, 110, 116]⟩ : ByteArray) t141 t142 _ A1.out).mono ?_); rintro e w28 ⟨rfl, hb⟩; refine ⟨_, rfl, ?_⟩; have n0_ := Aside0.mk (below_step (by repeat (first | (with_reducible first | exact HB.out | apply below_alloc | apply pw_below_drewN | apply below_drew1) | exact HB.out)) hb); clear HB; have HB := n0_; clear n0_; (try clear hb); (try clear hb2); (try clear hk); (try clear hi)) | ((with_reducible refine gate_callee (f := 12) rfl ?_); refine goesL_ (some 10) rfl rfl Try.func12 (by kernel_rfl) rfl #[.string (⟨#[105, 110, 116]⟩ : ByteArray)] rfl (by (try simp only [List.map_toArray, List.map_cons, List.map_nil]); first | done | rfl | (simp only [List.length_drop, List.length_take]; rfl)) ?_; (with_reducible refine (tag_Read.calls (⟨#[105, 110, 116]⟩ : ByteArray) t143 t144 _ A2.out).mono ?_); rintro e w29 ⟨rfl, hb⟩; refine ⟨_, rfl, ?_⟩; have n0_ := Aside0.mk (below_step (by repeat (first | (with_reducible first | exact HB.out | apply below_alloc | apply pw_below_drewN | apply below_drew1) | exact HB.out)) hb); clear HB; have HB := n0_; clear n0_; (try clear hb); (try clear hb2); (try clear hk); (try clear hi)) | ((with_reducible refine gate_callee (f := 8) rfl ?_); refine goesL_ (some 13) rfl rfl Try.func8 (by kernel_rfl) rfl #[.string (⟨#[48, 120, 49, 70]⟩ : ByteArray)] rfl (by (try simp only [List.map_toArray, List.map_cons, List.map_nil]); first | done | rfl | (simp only [List.length_drop, List.length_take]; rfl)) ?_; (with_reducible refine (tag_Resolve.calls k (⟨#[48, 120, 49, 70]⟩ : ByteArray) t145 _ A3.out).mono ?_); rintro e w' ⟨rfl, ⟨nd, rfl⟩⟩; refine ⟨_, rfl, ?_⟩) | (go_at_call 8; (with_reducible refine (tag_Resolve.calls k (⟨#[49, 46]⟩ : ByteArray) t146 _ A5.out).mono ?_); rintro e w' ⟨rfl, ⟨nd, rfl⟩⟩) | (go_at_call 8; (with_reducible refine (tag_Resolve.calls k (⟨#[49, 46, 50, 46, 51]⟩ : ByteArray) t147 _ A7.out).mono ?_); rintro e w' ⟨rfl, ⟨nd, rfl⟩⟩) | (go_at_call 18; (with_reducible refine (tag_Word.calls (⟨#[33, 97]⟩ : ByteArray) t148 _ A9.out).mono ?_); rintro e w30 ⟨rfl, hb⟩; have n0_ := Aside0.mk (below_step (by repeat (first | (with_reducible first | exact HB.out | apply below_alloc | apply pw_below_drewN | apply below_drew1) | exact HB.out)) hb); clear HB; have HB := n0_; clear n0_; (try clear hb); (try clear hb2); (try clear hk); (try clear hi)) | (go_at_call 14; (with_reducible refine (tag_Core.calls (⟨#[115, 101, 113]⟩ : ByteArray) false _ A14.out).mono ?_); rintro e w' ⟨rfl, ⟨nd, rfl⟩⟩))
                  go_ret
                  exact ⟨by first | rfl | (simp [errW_none, errW_some] <;> rfl) | (simp [*, errW_none, errW_some] <;> rfl), by repeat (first | (with_reducible first | exact HB.out | apply below_alloc | apply pw_below_drewN | apply below_drew1) | exact HB.out)⟩
              · rw [if_neg c13] at H
                have c13b0 : (t144 == 14) = false := beq_eq_false_iff_ne.mpr c13
                have c13b1 : (t144 != 14) = true := bne_iff_ne.mpr c13
                obtain rfl := Option.some.inj H
                go_enter Try.func7, Try.ntmps7
                go_wp2_with (first | ((with_reducible refine gate_callee (f := 12) rfl ?_); refine goesL_ (some 6) rfl rfl Try.func12 (by kernel_rfl) rfl #[.string (⟨#[33, 33, 105, 110, 116]⟩ : ByteArray)] rfl (by (try simp only [List.map_toArray, List.map_cons, List.map_nil]); first | done | rfl | (simp only [List.length_drop, List.length_take]; rfl)) ?_; (with_reducible refine (tag_Read.calls (⟨#[33, 33, 105, 110, 116]⟩ : ByteArray) t141 t142 _ A1.out).mono ?_); rintro e w31 ⟨rfl, hb⟩; refine ⟨_, rfl, ?_⟩; have n0_ := Aside0.mk (below_step (by repeat (first | (with_reducible first | exact HB.out | apply below_alloc | apply pw_below_drewN | apply below_drew1) | exact HB.out)) hb); clear HB; have HB := n0_; clear n0_; (try clear hb); (try clear hb2); (try clear hk); (try clear hi)) | ((with_reducible refine gate_callee (f := 12) rfl ?_); refine goesL_ (some 10) rfl rfl Try.func12 (by kernel_rfl) rfl #[.string (⟨#[105, 110, 116]⟩ : ByteArray)] rfl (by (try simp only [List.map_toArray, List.map_cons, List.map_nil]); first | done | rfl | (simp only [List.length_drop, List.length_take]; rfl)) ?_; (with_reducible refine (tag_Read.calls (⟨#[105, 110, 116]⟩ : ByteArray) t143 t144 _ A2.out).mono ?_); rintro e w32 ⟨rfl, hb⟩; refine ⟨_, rfl, ?_⟩; have n0_ := Aside0.mk (below_step (by repeat (first | (with_reducible first | exact HB.out | apply below_alloc | apply pw_below_drewN | apply below_drew1) | exact HB.out)) hb); clear HB; have HB := n0_; clear n0_; (try clear hb); (try clear hb2); (try clear hk); (try clear hi)) | ((with_reducible refine gate_callee (f := 8) rfl ?_); refine goesL_ (some 13) rfl rfl Try.func8 (by kernel_rfl) rfl #[.string (⟨#[48, 120, 49, 70]⟩ : ByteArray)] rfl (by (try simp only [List.map_toArray, List.map_cons, List.map_nil]); first | done | rfl | (simp only [List.length_drop, List.length_take]; rfl)) ?_; (with_reducible refine (tag_Resolve.calls k (⟨#[48, 120, 49, 70]⟩ : ByteArray) t145 _ A3.out).mono ?_); rintro e w' ⟨rfl, ⟨nd, rfl⟩⟩; refine ⟨_, rfl, ?_⟩) | (go_at_call 8; (with_reducible refine (tag_Resolve.calls k (⟨#[49, 46]⟩ : ByteArray) t146 _ A5.out).mono ?_); rintro e w' ⟨rfl, ⟨nd, rfl⟩⟩) | (go_at_call 8; (with_reducible refine (tag_Resolve.calls k (⟨#[49, 46, 50, 46, 51]⟩ : ByteArray) t147 _ A7.out).mono ?_); rintro e w' ⟨rfl, ⟨nd, rfl⟩⟩) | (go_at_call 18; (with_reducible refine (tag_Word.calls (⟨#[33, 97]⟩ : ByteArray) t148 _ A9.out).mono ?_); rintro e w33 ⟨rfl, hb⟩; have n0_ := Aside0.mk (below_step (by repeat (first | (with_reducible first | exact HB.out | apply below_alloc | apply pw_below_drewN | apply below_drew1) | exact HB.out)) hb); clear HB; have HB := n0_; clear n0_; (try clear hb); (try clear hb2); (try clear hk); (try clear hi)))
                go_ret
                exact ⟨by first | rfl | (simp [errW_none, errW_some] <;> rfl) | (simp [*, errW_none, errW_some] <;> rfl), by repeat (first | (with_reducible first | exact HB.out | apply below_alloc | apply pw_below_drewN | apply below_drew1) | exact HB.out)⟩
            · rw [if_neg c12] at H
              have c12b0 : (t142 == 0) = false := beq_eq_false_iff_ne.mpr c12
              have c12b1 : (t142 != 0) = true := bne_iff_ne.mpr c12
              obtain rfl := Option.some.inj H
              go_enter Try.func7, Try.ntmps7
              go_wp2_with (first | ((with_reducible refine gate_callee (f := 12) rfl ?_); refine goesL_ (some 6) rfl rfl Try.func12 (by kernel_rfl) rfl #[.string (⟨#[33, 33, 105, 110, 116]⟩ : ByteArray)] rfl (by (try simp only [List.map_toArray, List.map_cons, List.map_nil]); first | done | rfl | (simp only [List.length_drop, List.length_take]; rfl)) ?_; (with_reducible refine (tag_Read.calls (⟨#[33, 33, 105, 110, 116]⟩ : ByteArray) t141 t142 _ A1.out).mono ?_); rintro e w34 ⟨rfl, hb⟩; refine ⟨_, rfl, ?_⟩; have n0_ := Aside0.mk (below_step (by repeat (first | (with_reducible first | exact HB.out | apply below_alloc | apply pw_below_drewN | apply below_drew1) | exact HB.out)) hb); clear HB; have HB := n0_; clear n0_; (try clear hb); (try clear hb2); (try clear hk); (try clear hi)) | ((with_reducible refine gate_callee (f := 12) rfl ?_); refine goesL_ (some 10) rfl rfl Try.func12 (by kernel_rfl) rfl #[.string (⟨#[105, 110, 116]⟩ : ByteArray)] rfl (by (try simp only [List.map_toArray, List.map_cons, List.map_nil]); first | done | rfl | (simp only [List.length_drop, List.length_take]; rfl)) ?_; (with_reducible refine (tag_Read.calls (⟨#[105, 110, 116]⟩ : ByteArray) t143 t144 _ A2.out).mono ?_); rintro e w35 ⟨rfl, hb⟩; refine ⟨_, rfl, ?_⟩; have n0_ := Aside0.mk (below_step (by repeat (first | (with_reducible first | exact HB.out | apply below_alloc | apply pw_below_drewN | apply below_drew1) | exact HB.out)) hb); clear HB; have HB := n0_; clear n0_; (try clear hb); (try clear hb2); (try clear hk); (try clear hi)) | ((with_reducible refine gate_callee (f := 8) rfl ?_); refine goesL_ (some 13) rfl rfl Try.func8 (by kernel_rfl) rfl #[.string (⟨#[48, 120, 49, 70]⟩ : ByteArray)] rfl (by (try simp only [List.map_toArray, List.map_cons, List.map_nil]); first | done | rfl | (simp only [List.length_drop, List.length_take]; rfl)) ?_; (with_reducible refine (tag_Resolve.calls k (⟨#[48, 120, 49, 70]⟩ : ByteArray) t145 _ A3.out).mono ?_); rintro e w' ⟨rfl, ⟨nd, rfl⟩⟩; refine ⟨_, rfl, ?_⟩) | (go_at_call 8; (with_reducible refine (tag_Resolve.calls k (⟨#[49, 46]⟩ : ByteArray) t146 _ A5.out).mono ?_); rintro e w' ⟨rfl, ⟨nd, rfl⟩⟩) | (go_at_call 8; (with_reducible refine (tag_Resolve.calls k (⟨#[49, 46, 50, 46, 51]⟩ : ByteArray) t147 _ A7.out).mono ?_); rintro e w' ⟨rfl, ⟨nd, rfl⟩⟩) | (go_at_call 18; (with_reducible refine (tag_Word.calls (⟨#[33, 97]⟩ : ByteArray) t148 _ A9.out).mono ?_); rintro e w36 ⟨rfl, hb⟩; have n0_ := Aside0.mk (below_step (by repeat (first | (with_reducible first | exact HB.out | apply below_alloc | apply pw_below_drewN | apply below_drew1) | exact HB.out)) hb); clear HB; have HB := n0_; clear n0_; (try clear hb); (try clear hb2); (try clear hk); (try clear hi)))
              go_ret
              exact ⟨by first | rfl | (simp [errW_none, errW_some] <;> rfl) | (simp [*, errW_none, errW_some] <;> rfl), by repeat (first | (with_reducible first | exact HB.out | apply below_alloc | apply pw_below_drewN | apply below_drew1) | exact HB.out)⟩
          · rw [if_neg c11] at H
            have c11b0 : (t141.toList == ([105, 110, 116] : List UInt8)) = false := beq_eq_false_iff_ne.mpr c11
            have c11b1 : (t141.toList != ([105, 110, 116] : List UInt8)) = true := bne_iff_ne.mpr c11
            obtain rfl := Option.some.inj H
            go_enter Try.func7, Try.ntmps7
            go_wp2_with (first | ((with_reducible refine gate_callee (f := 12) rfl ?_); refine goesL_ (some 6) rfl rfl Try.func12 (by kernel_rfl) rfl #[.string (⟨#[33, 33, 105, 110, 116]⟩ : ByteArray)] rfl (by (try simp only [List.map_toArray, List.map_cons, List.map_nil]); first | done | rfl | (simp only [List.length_drop, List.length_take]; rfl)) ?_; (with_reducible refine (tag_Read.calls (⟨#[33, 33, 105, 110, 116]⟩ : ByteArray) t141 t142 _ A1.out).mono ?_); rintro e w37 ⟨rfl, hb⟩; refine ⟨_, rfl, ?_⟩; have n0_ := Aside0.mk (below_step (by repeat (first | (with_reducible first | exact HB.out | apply below_alloc | apply pw_below_drewN | apply below_drew1) | exact HB.out)) hb); clear HB; have HB := n0_; clear n0_; (try clear hb); (try clear hb2); (try clear hk); (try clear hi)) | ((with_reducible refine gate_callee (f := 12) rfl ?_); refine goesL_ (some 10) rfl rfl Try.func12 (by kernel_rfl) rfl #[.string (⟨#[105, 110, 116]⟩ : ByteArray)] rfl (by (try simp only [List.map_toArray, List.map_cons, List.map_nil]); first | done | rfl | (simp only [List.length_drop, List.length_take]; rfl)) ?_; (with_reducible refine (tag_Read.calls (⟨#[105, 110, 116]⟩ : ByteArray) t143 t144 _ A2.out).mono ?_); rintro e w38 ⟨rfl, hb⟩; refine ⟨_, rfl, ?_⟩; have n0_ := Aside0.mk (below_step (by repeat (first | (with_reducible first | exact HB.out | apply below_alloc | apply pw_below_drewN | apply below_drew1) | exact HB.out)) hb); clear HB; have HB := n0_; clear n0_; (try clear hb); (try clear hb2); (try clear hk); (try clear hi)) | ((with_reducible refine gate_callee (f := 8) rfl ?_); refine goesL_ (some 13) rfl rfl Try.func8 (by kernel_rfl) rfl #[.string (⟨#[48, 120, 49, 70]⟩ : ByteArray)] rfl (by (try simp only [List.map_toArray, List.map_cons, List.map_nil]); first | done | rfl | (simp only [List.length_drop, List.length_take]; rfl)) ?_; (with_reducible refine (tag_Resolve.calls k (⟨#[48, 120, 49, 70]⟩ : ByteArray) t145 _ A3.out).mono ?_); rintro e w' ⟨rfl, ⟨nd, rfl⟩⟩; refine ⟨_, rfl, ?_⟩) | (go_at_call 8; (with_reducible refine (tag_Resolve.calls k (⟨#[49, 46]⟩ : ByteArray) t146 _ A5.out).mono ?_); rintro e w' ⟨rfl, ⟨nd, rfl⟩⟩) | (go_at_call 8; (with_reducible refine (tag_Resolve.calls k (⟨#[49, 46, 50, 46, 51]⟩ : ByteArray) t147 _ A7.out).mono ?_); rintro e w' ⟨rfl, ⟨nd, rfl⟩⟩) | (go_at_call 18; (with_reducible refine (tag_Word.calls (⟨#[33, 97]⟩ : ByteArray) t148 _ A9.out).mono ?_); rintro e w39 ⟨rfl, hb⟩; have n0_ := Aside0.mk (below_step (by repeat (first | (with_reducible first | exact HB.out | apply below_alloc | apply pw_below_drewN | apply below_drew1) | exact HB.out)) hb); clear HB; have HB := n0_; clear n0_; (try clear hb); (try clear hb2); (try clear hk); (try clear hi)))
            go_ret
            exact ⟨by first | rfl | (simp [errW_none, errW_some] <;> rfl) | (simp [*, errW_none, errW_some] <;> rfl), by repeat (first | (with_reducible first | exact HB.out | apply below_alloc | apply pw_below_drewN | apply below_drew1) | exact HB.out)⟩
        · rw [if_neg c10] at H
          have c10b0 : (t148.toList == ([33, 97] : List UInt8)) = false := beq_eq_false_iff_ne.mpr c10
          have c10b1 : (t148.toList != ([33, 97] : List UInt8)) = true := bne_iff_ne.mpr c10
          obtain rfl := Option.some.inj H
          go_enter Try.func7, Try.ntmps7
          go_wp2_with (first | ((with_reducible refine gate_callee (f := 12) rfl ?_); refine goesL_ (some 6) rfl rfl Try.func12 (by kernel_rfl) rfl #[.string (⟨#[33, 33, 105, 110, 116]⟩ : ByteArray)] rfl (by (try simp only [List.map_toArray, List.map_cons, List.map_nil]); first | done | rfl | (simp only [List.length_drop, List.length_take]; rfl)) ?_; (with_reducible refine (tag_Read.calls (⟨#[33, 33, 105, 110, 116]⟩ : ByteArray) t141 t142 _ A1.out).mono ?_); rintro e w40 ⟨rfl, hb⟩; refine ⟨_, rfl, ?_⟩; have n0_ := Aside0.mk (below_step (by repeat (first | (with_reducible first | exact HB.out | apply below_alloc | apply pw_below_drewN | apply below_drew1) | exact HB.out)) hb); clear HB; have HB := n0_; clear n0_; (try clear hb); (try clear hb2); (try clear hk); (try clear hi)) | ((with_reducible refine gate_callee (f := 12) rfl ?_); refine goesL_ (some 10) rfl rfl Try.func12 (by kernel_rfl) rfl #[.string (⟨#[105, 110, 116]⟩ : ByteArray)] rfl (by (try simp only [List.map_toArray, List.map_cons, List.map_nil]); first | done | rfl | (simp only [List.length_drop, List.length_take]; rfl)) ?_; (with_reducible refine (tag_Read.calls (⟨#[105, 110, 116]⟩ : ByteArray) t143 t144 _ A2.out).mono ?_); rintro e w41 ⟨rfl, hb⟩; refine ⟨_, rfl, ?_⟩; have n0_ := Aside0.mk (below_step (by repeat (first | (with_reducible first | exact HB.out | apply below_alloc | apply pw_below_drewN | apply below_drew1) | exact HB.out)) hb); clear HB; have HB := n0_; clear n0_; (try clear hb); (try clear hb2); (try clear hk); (try clear hi)) | ((with_reducible refine gate_callee (f := 8) rfl ?_); refine goesL_ (some 13) rfl rfl Try.func8 (by kernel_rfl) rfl #[.string (⟨#[48, 120, 49, 70]⟩ : ByteArray)] rfl (by (try simp only [List.map_toArray, List.map_cons, List.map_nil]); first | done | rfl | (simp only [List.length_drop, List.length_take]; rfl)) ?_; (with_reducible refine (tag_Resolve.calls k (⟨#[48, 120, 49, 70]⟩ : ByteArray) t145 _ A3.out).mono ?_); rintro e w' ⟨rfl, ⟨nd, rfl⟩⟩; refine ⟨_, rfl, ?_⟩) | (go_at_call 8; (with_reducible refine (tag_Resolve.calls k (⟨#[49, 46]⟩ : ByteArray) t146 _ A5.out).mono ?_); rintro e w' ⟨rfl, ⟨nd, rfl⟩⟩) | (go_at_call 8; (with_reducible refine (tag_Resolve.calls k (⟨#[49, 46, 50, 46, 51]⟩ : ByteArray) t147 _ A7.out).mono ?_); rintro e w' ⟨rfl, ⟨nd, rfl⟩⟩) | (go_at_call 18; (with_reducible refine (tag_Word.calls (⟨#[33, 97]⟩ : ByteArray) t148 _ A9.out).mono ?_); rintro e w42 ⟨rfl, hb⟩; have n0_ := Aside0.mk (below_step (by repeat (first | (with_reducible first | exact HB.out | apply below_alloc | apply pw_below_drewN | apply below_drew1) | exact HB.out)) hb); clear HB; have HB := n0_; clear n0_; (try clear hb); (try clear hb2); (try clear hk); (try clear hi)))
          go_ret
          exact ⟨by first | rfl | (simp [errW_none, errW_some] <;> rfl) | (simp [*, errW_none, errW_some] <;> rfl), by repeat (first | (with_reducible first | exact HB.out | apply below_alloc | apply pw_below_drewN | apply below_drew1) | exact HB.out)⟩
      · rw [if_neg c8] at H
        have c8b0 : (t147.toList == ([115, 116, 114] : List UInt8)) = false := beq_eq_false_iff_ne.mpr c8
        have c8b1 : (t147.toList != ([115, 116, 114] : List UInt8)) = true := bne_iff_ne.mpr c8
        obtain rfl := Option.some.inj H
        go_enter Try.func7, Try.ntmps7
        go_wp2_with (first | ((with_reducible refine gate_callee (f := 12) rfl ?_); refine goesL_ (some 6) rfl rfl Try.func12 (by kernel_rfl) rfl #[.string (⟨#[33, 33, 105, 110, 116]⟩ : ByteArray)] rfl (by (try simp only [List.map_toArray, List.map_cons, List.map_nil]); first | done | rfl | (simp only [List.length_drop, List.length_take]; rfl)) ?_; (with_reducible refine (tag_Read.calls (⟨#[33, 33, 105, 110, 116]⟩ : ByteArray) t141 t142 _ A1.out).mono ?_); rintro e w43 ⟨rfl, hb⟩; refine ⟨_, rfl, ?_⟩; have n0_ := Aside0.mk (below_step (by repeat (first | (with_reducible first | exact HB.out | apply below_alloc | apply pw_below_drewN | apply below_drew1) | exact HB.out)) hb); clear HB; have HB := n0_; clear n0_; (try clear hb); (try clear hb2); (try clear hk); (try clear hi)) | ((with_reducible refine gate_callee (f := 12) rfl ?_); refine goesL_ (some 10) rfl rfl Try.func12 (by kernel_rfl) rfl #[.string (⟨#[105, 110, 116]⟩ : ByteArray)] rfl (by (try simp only [List.map_toArray, List.map_cons, List.map_nil]); first | done | rfl | (simp only [List.length_drop, List.length_take]; rfl)) ?_; (with_reducible refine (tag_Read.calls (⟨#[105, 110, 116]⟩ : ByteArray) t143 t144 _ A2.out).mono ?_); rintro e w44 ⟨rfl, hb⟩; refine ⟨_, rfl, ?_⟩; have n0_ := Aside0.mk (below_step (by repeat (first | (with_reducible first | exact HB.out | apply below_alloc | apply pw_below_drewN | apply below_drew1) | exact HB.out)) hb); clear HB; have HB := n0_; clear n0_; (try clear hb); (try clear hb2); (try clear hk); (try clear hi)) | ((with_reducible refine gate_callee (f := 8) rfl ?_); refine goesL_ (some 13) rfl rfl Try.func8 (by kernel_rfl) rfl #[.string (⟨#[48, 120, 49, 70]⟩ : ByteArray)] rfl (by (try simp only [List.map_toArray, List.map_cons, List.map_nil]); first | done | rfl | (simp only [List.length_drop, List.length_take]; rfl)) ?_; (with_reducible refine (tag_Resolve.calls k (⟨#[48, 120, 49, 70]⟩ : ByteArray) t145 _ A3.out).mono ?_); rintro e w' ⟨rfl, ⟨nd, rfl⟩⟩; refine ⟨_, rfl, ?_⟩) | (go_at_call 8; (with_reducible refine (tag_Resolve.calls k (⟨#[49, 46]⟩ : ByteArray) t146 _ A5.out).mono ?_); rintro e w' ⟨rfl, ⟨nd, rfl⟩⟩) | (go_at_call 8; (with_reducible refine (tag_Resolve.calls k (⟨#[49, 46, 50, 46, 51]⟩ : ByteArray) t147 _ A7.out).mono ?_); rintro e w' ⟨rfl, ⟨nd, rfl⟩⟩))
        go_ret
        exact ⟨by first | rfl | (simp [errW_none, errW_some] <;> rfl) | (simp [*, errW_none, errW_some] <;> rfl), by repeat (first | (with_reducible first | exact HB.out | apply below_alloc | apply pw_below_drewN | apply below_drew1) | exact HB.out)⟩
    · rw [if_neg c6] at H
      have c6b0 : (t146.toList == ([102, 108, 111, 97, 116] : List UInt8)) = false := beq_eq_false_iff_ne.mpr c6
      have c6b1 : (t146.toList != ([102, 108, 111, 97, 116] : List UInt8)) = true := bne_iff_ne.mpr c6
      obtain rfl := Option.some.inj H
      go_enter Try.func7, Try.ntmps7
      go_wp2_with (first | ((with_reducible refine gate_callee (f := 12) rfl ?_); refine goesL_ (some 6) rfl rfl Try.func12 (by kernel_rfl) rfl #[.string (⟨#[33, 33, 105, 110, 116]⟩ : ByteArray)] rfl (by (try simp only [List.map_toArray, List.map_cons, List.map_nil]); first | done | rfl | (simp only [List.length_drop, List.length_take]; rfl)) ?_; (with_reducible refine (tag_Read.calls (⟨#[33, 33, 105, 110, 116]⟩ : ByteArray) t141 t142 _ A1.out).mono ?_); rintro e w45 ⟨rfl, hb⟩; refine ⟨_, rfl, ?_⟩; have n0_ := Aside0.mk (below_step (by repeat (first | (with_reducible first | exact HB.out | apply below_alloc | apply pw_below_drewN | apply below_drew1) | exact HB.out)) hb); clear HB; have HB := n0_; clear n0_; (try clear hb); (try clear hb2); (try clear hk); (try clear hi)) | ((with_reducible refine gate_callee (f := 12) rfl ?_); refine goesL_ (some 10) rfl rfl Try.func12 (by kernel_rfl) rfl #[.string (⟨#[105, 110, 116]⟩ : ByteArray)] rfl (by (try simp only [List.map_toArray, List.map_cons, List.map_nil]); first | done | rfl | (simp only [List.length_drop, List.length_take]; rfl)) ?_; (with_reducible refine (tag_Read.calls (⟨#[105, 110, 116]⟩ : ByteArray) t143 t144 _ A2.out).mono ?_); rintro e w46 ⟨rfl, hb⟩; refine ⟨_, rfl, ?_⟩; have n0_ := Aside0.mk (below_step (by repeat (first | (with_reducible first | exact HB.out | apply below_alloc | apply pw_below_drewN | apply below_drew1) | exact HB.out)) hb); clear HB; have HB := n0_; clear n0_; (try clear hb); (try clear hb2); (try clear hk); (try clear hi)) | ((with_reducible refine gate_callee (f := 8) rfl ?_); refine goesL_ (some 13) rfl rfl Try.func8 (by kernel_rfl) rfl #[.string (⟨#[48, 120, 49, 70]⟩ : ByteArray)] rfl (by (try simp only [List.map_toArray, List.map_cons, List.map_nil]); first | done | rfl | (simp only [List.length_drop, List.length_take]; rfl)) ?_; (with_reducible refine (tag_Resolve.calls k (⟨#[48, 120, 49, 70]⟩ : ByteArray) t145 _ A3.out).mono ?_); rintro e w' ⟨rfl, ⟨nd, rfl⟩⟩; refine ⟨_, rfl, ?_⟩) | (go_at_call 8; (with_reducible refine (tag_Resolve.calls k (⟨#[49, 46]⟩ : ByteArray) t146 _ A5.out).mono ?_); rintro e w' ⟨rfl, ⟨nd, rfl⟩⟩))
      go_ret
      exact ⟨by first | rfl | (simp [errW_none, errW_some] <;> rfl) | (simp [*, errW_none, errW_some] <;> rfl), by repeat (first | (with_reducible first | exact HB.out | apply below_alloc | apply pw_below_drewN | apply below_drew1) | exact HB.out)⟩
  · rw [if_neg c4] at H
    have c4b0 : (t145.toList == ([105, 110, 116] : List UInt8)) = false := beq_eq_false_iff_ne.mpr c4
    have c4b1 : (t145.toList != ([105, 110, 116] : List UInt8)) = true := bne_iff_ne.mpr c4
    obtain rfl := Option.some.inj H
    go_enter Try.func7, Try.ntmps7
    go_wp2_with (first | ((with_reducible refine gate_callee (f := 12) rfl ?_); refine goesL_ (some 6) rfl rfl Try.func12 (by kernel_rfl) rfl #[.string (⟨#[33, 33, 105, 110, 116]⟩ : ByteArray)] rfl (by (try simp only [List.map_toArray, List.map_cons, List.map_nil]); first | done | rfl | (simp only [List.length_drop, List.length_take]; rfl)) ?_; (with_reducible refine (tag_Read.calls (⟨#[33, 33, 105, 110, 116]⟩ : ByteArray) t141 t142 _ A1.out).mono ?_); rintro e w47 ⟨rfl, hb⟩; refine ⟨_, rfl, ?_⟩; have n0_ := Aside0.mk (below_step (by repeat (first | (with_reducible first | exact HB.out | apply below_alloc | apply pw_below_drewN | apply below_drew1) | exact HB.out)) hb); clear HB; have HB := n0_; clear n0_; (try clear hb); (try clear hb2); (try clear hk); (try clear hi)) | ((with_reducible refine gate_callee (f := 12) rfl ?_); refine goesL_ (some 10) rfl rfl Try.func12 (by kernel_rfl) rfl #[.string (⟨#[105, 110, 116]⟩ : ByteArray)] rfl (by (try simp only [List.map_toArray, List.map_cons, List.map_nil]); first | done | rfl | (simp only [List.length_drop, List.length_take]; rfl)) ?_; (with_reducible refine (tag_Read.calls (⟨#[105, 110, 116]⟩ : ByteArray) t143 t144 _ A2.out).mono ?_); rintro e w48 ⟨rfl, hb⟩; refine ⟨_, rfl, ?_⟩; have n0_ := Aside0.mk (below_step (by repeat (first | (with_reducible first | exact HB.out | apply below_alloc | apply pw_below_drewN | apply below_drew1) | exact HB.out)) hb); clear HB; have HB := n0_; clear n0_; (try clear hb); (try clear hb2); (try clear hk); (try clear hi)) | ((with_reducible refine gate_callee (f := 8) rfl ?_); refine goesL_ (some 13) rfl rfl Try.func8 (by kernel_rfl) rfl #[.string (⟨#[48, 120, 49, 70]⟩ : ByteArray)] rfl (by (try simp only [List.map_toArray, List.map_cons, List.map_nil]); first | done | rfl | (simp only [List.length_drop, List.length_take]; rfl)) ?_; (with_reducible refine (tag_Resolve.calls k (⟨#[48, 120, 49, 70]⟩ : ByteArray) t145 _ A3.out).mono ?_); rintro e w' ⟨rfl, ⟨nd, rfl⟩⟩; refine ⟨_, rfl, ?_⟩))
    go_ret
    exact ⟨by first | rfl | (simp [errW_none, errW_some] <;> rfl) | (simp [*, errW_none, errW_some] <;> rfl), by repeat (first | (with_reducible first | exact HB.out | apply below_alloc | apply pw_below_drewN | apply below_drew1) | exact HB.out)⟩

end Go.Proofs.Ytmedojlhnpcniaa.X
